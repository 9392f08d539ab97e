/- Written by the session's own program hyb.py: what functions of the program compute; Lean checks it. -/
import Derived.Test.YtdoifmefhofnnaaDx0
import Derived.Test.YtdoifmefhofnnaaDx6
import Derived.Test.YtdoifmefhofnnaaDx21
import Derived.Test.YtdoifmefhofnnaaDx24
namespace Go.Proofs.Ytdoifmefhofnnaa.D
open Go.RowKit Go.Proofs.YtdoifmefhofnnaaW.PrintWords Go.Proofs.YtdoifmefhofnnaaW.PrintLast Go.Proofs.YtdoifmefhofnnaaW.PrintMore Go.Proofs.YtdoifmefhofnnaaW.PrintShort
attribute [local go_sem] run_Add64 run_Sub64
attribute [local go_sem] max2_int min2_int max_two min_two max_three min_three max_four min_four   -- for this text's walks alone
set_option linter.unusedVariables false
set_option linter.unusedSimpArgs false

/-! ### turnstilelaw24_AuditTwo: function 6 -/
mutual
def turnstilelaw24_AuditTwo.j0 : Nat → List (S31) → Int → Bool → Int → Int → Int → Int → Int → Option (Bool)
  | 0, _, _, _, _, _, _, _, _ => none
  | k + 1, x1, x2, x31, x595000, x595001, x595002, x595003, x595004 => if x31 = true then (some true) else (if (IntKind.u64.wrap ((x1.length : Int))) = 0 then (none) else (if 0 ≤ (wrap64 (Int.tmod (IntKind.u64.wrap (x2)) (IntKind.u64.wrap ((x1.length : Int))))) then (if (wrap64 (Int.tmod (IntKind.u64.wrap (x2)) (IntKind.u64.wrap ((x1.length : Int))))) < (x1.length : Int) then ((sat_Of.f ((rd_T31 x1 (wrap64 (Int.tmod (IntKind.u64.wrap (x2)) (IntKind.u64.wrap ((x1.length : Int)))))).f0)).bind fun bt598 => (turnstilelaw24_AuditTwo.l0 k x1 (wrap64 (Int.tmod (IntKind.u64.wrap (x2)) (IntKind.u64.wrap ((x1.length : Int))))) x595000 x595001 x595002 x595003 x595004 bt598.1 bt598.2)) else (none)) else (none)))
def turnstilelaw24_AuditTwo.l0 : Nat → List (S31) → Int → Int → Int → Int → Int → Int → Int → Int → Option (Bool)
  | 0, _, _, _, _, _, _, _, _, _ => none
  | k + 1, x1, x9, x595000, x595001, x595002, x595003, x595004, x601000, x601001 => if x9 < (x1.length : Int) then (if 0 ≤ x9 then (if ((rd_T31 x1 x9).f1) = 0 then (some false) else ((sat_Product.f (IntKind.u64.wrap (((rd_T31 x1 x9).f1) - 1)) x595001).bind fun bt603 => ((sat_Wide_Plus.f x601000 x601001 bt603.1 bt603.2).bind fun bt605 => ((sat_Of.f ((rd_T31 x1 x9).f0)).bind fun bt609 => ((sat_Of.f x595002).bind fun bt611 => ((sat_Wide_Plus.f bt609.1 bt609.2 bt611.1 bt611.2).bind fun bt613 => ((sat_Wide_Cmp.f bt605.1 bt605.2 bt613.1 bt613.2).bind fun t615 => (if t615 > 0 then (some false) else ((sat_Of.f x595001).bind fun bt616 => ((sat_Wide_Plus.f bt605.1 bt605.2 bt616.1 bt616.2).bind fun bt618 => (turnstilelaw24_AuditTwo.l0 k x1 (wrap64 (x9 + 1)) x595000 x595001 x595002 x595003 x595004 bt618.1 bt618.2))))))))))) else (none)) else (some true)
end
def turnstilelaw24_AuditTwo.f (k : Nat) (a0_0 : Int) (a0_1 : Int) (a0_2 : Int) (a0_3 : Int) (a0_4 : Int) (l1 : List (S31)) (a2 : Int) : Option (Bool) := (turnstilelaw24_awake.f k).bind fun t595 => (if t595 = true then (if a0_0 = 1 then (if (l1.length : Int) = 0 then (turnstilelaw24_AuditTwo.j0 k l1 a2 true a0_0 a0_1 a0_2 a0_3 a0_4) else (if (l1.length : Int) > 1048576 then (turnstilelaw24_AuditTwo.j0 k l1 a2 true a0_0 a0_1 a0_2 a0_3 a0_4) else ((audit_Conforms.f k a0_0 a0_1 a0_2 a0_3 a0_4 l1).bind fun t596 => (turnstilelaw24_AuditTwo.j0 k l1 a2 (!t596) a0_0 a0_1 a0_2 a0_3 a0_4)))) else (turnstilelaw24_AuditTwo.j0 k l1 a2 true a0_0 a0_1 a0_2 a0_3 a0_4)) else (some false))
theorem turnstilelaw24_AuditTwo.mono_l : ∀ k, (∀ y0 y1 y2 y3 y4 y5 y6 y7, LeO (turnstilelaw24_AuditTwo.j0 k y0 y1 y2 y3 y4 y5 y6 y7) (turnstilelaw24_AuditTwo.j0 (k + 1) y0 y1 y2 y3 y4 y5 y6 y7)) ∧ (∀ y0 y1 y2 y3 y4 y5 y6 y7 y8, LeO (turnstilelaw24_AuditTwo.l0 k y0 y1 y2 y3 y4 y5 y6 y7 y8) (turnstilelaw24_AuditTwo.l0 (k + 1) y0 y1 y2 y3 y4 y5 y6 y7 y8))
  | 0 => ⟨fun _ _ _ _ _ _ _ _ r h => by simp [turnstilelaw24_AuditTwo.j0] at h, fun _ _ _ _ _ _ _ _ _ r h => by simp [turnstilelaw24_AuditTwo.l0] at h⟩
  | k + 1 => by
    obtain ⟨ih0, ih1⟩ := turnstilelaw24_AuditTwo.mono_l k
    refine ⟨?_, ?_⟩
    · intro y0 y1 y2 y3 y4 y5 y6 y7
      unfold turnstilelaw24_AuditTwo.j0
      repeat' first
      | (with_reducible exact ih0 _ _ _ _ _ _ _ _)
      | (with_reducible exact ih1 _ _ _ _ _ _ _ _ _)
      | (with_reducible exact audit_Conforms.mono _ _ _ _ _ _ _)
      | (with_reducible exact turnstilelaw24_awake.mono _)
      | (with_reducible exact LeO.refl _)
      | (with_reducible exact LeO.none _)
      | (with_reducible refine LeO.ite ?_ ?_)
      | (with_reducible refine LeO.bind ?_ (fun _ => ?_))
      | exact ih0 _ _ _ _ _ _ _ _
      | exact ih1 _ _ _ _ _ _ _ _ _
      | exact audit_Conforms.mono _ _ _ _ _ _ _
      | exact turnstilelaw24_awake.mono _
      | exact LeO.none _
      | refine LeO.ite ?_ ?_
      | refine LeO.bind ?_ (fun _ => ?_)
    · intro y0 y1 y2 y3 y4 y5 y6 y7 y8
      unfold turnstilelaw24_AuditTwo.l0
      repeat' first
      | (with_reducible exact ih0 _ _ _ _ _ _ _ _)
      | (with_reducible exact ih1 _ _ _ _ _ _ _ _ _)
      | (with_reducible exact audit_Conforms.mono _ _ _ _ _ _ _)
      | (with_reducible exact turnstilelaw24_awake.mono _)
      | (with_reducible exact LeO.refl _)
      | (with_reducible exact LeO.none _)
      | (with_reducible refine LeO.ite ?_ ?_)
      | (with_reducible refine LeO.bind ?_ (fun _ => ?_))
      | exact ih0 _ _ _ _ _ _ _ _
      | exact ih1 _ _ _ _ _ _ _ _ _
      | exact audit_Conforms.mono _ _ _ _ _ _ _
      | exact turnstilelaw24_awake.mono _
      | exact LeO.none _
      | refine LeO.ite ?_ ?_
      | refine LeO.bind ?_ (fun _ => ?_)
theorem turnstilelaw24_AuditTwo.mono : ∀ a0 a1 a2 a3 a4 a5 a6 k, LeO (turnstilelaw24_AuditTwo.f k a0 a1 a2 a3 a4 a5 a6) (turnstilelaw24_AuditTwo.f (k + 1) a0 a1 a2 a3 a4 a5 a6) := by
  intro a0 a1 a2 a3 a4 a5 a6 k
  obtain ⟨ih0, ih1⟩ := turnstilelaw24_AuditTwo.mono_l k
  unfold turnstilelaw24_AuditTwo.f
  repeat' first
      | (with_reducible exact ih0 _ _ _ _ _ _ _ _)
      | (with_reducible exact ih1 _ _ _ _ _ _ _ _ _)
      | (with_reducible exact audit_Conforms.mono _ _ _ _ _ _ _)
      | (with_reducible exact turnstilelaw24_awake.mono _)
      | (with_reducible exact LeO.refl _)
      | (with_reducible exact LeO.none _)
      | (with_reducible refine LeO.ite ?_ ?_)
      | (with_reducible refine LeO.bind ?_ (fun _ => ?_))
      | exact ih0 _ _ _ _ _ _ _ _
      | exact ih1 _ _ _ _ _ _ _ _ _
      | exact audit_Conforms.mono _ _ _ _ _ _ _
      | exact turnstilelaw24_awake.mono _
      | exact LeO.none _
      | refine LeO.ite ?_ ?_
      | refine LeO.bind ?_ (fun _ => ?_)
def turnstilelaw24_AuditTwo.T12 : Bool × List (List Nat × List Nat) := (true, [([], []), ([], []), ([], []), ([1, 2], [1, 2]), ([3], [3]), ([4], [4]), ([5], [5]), ([], []), ([7], [7]), ([6, 8], [6, 8]), ([0, 9, 9], [0, 9]), ([], []), ([11, 10, 10, 0, 1, 2, 3, 4, 5, 6, 7, 8, 9, 10, 11], [10, 11])])
def turnstilelaw24_AuditTwo.B12 : List Nat := [0, 0, 0, 6, 14, 30, 62, 0, 128, 510, 1023, 0, 4095]
theorem turnstilelaw24_AuditTwo.tab12 : rtab .any (opsOf Try.f6 12) = turnstilelaw24_AuditTwo.T12 := by kernel_rfl
theorem turnstilelaw24_AuditTwo.bits12 : waitsOk turnstilelaw24_AuditTwo.T12.2 turnstilelaw24_AuditTwo.B12 = true := by kernel_rfl
def turnstilelaw24_AuditTwo.T13 : Bool × List (List Nat × List Nat) := (true, [([], []), ([], []), ([], []), ([1, 2], [1, 2]), ([3], [3]), ([4], [4]), ([5], [5]), ([], []), ([7], [7]), ([8, 6], [8]), ([6, 9, 9], [6, 9]), ([0, 10, 10], [0, 10]), ([11], [11])])
def turnstilelaw24_AuditTwo.B13 : List Nat := [0, 0, 0, 6, 14, 30, 62, 0, 128, 510, 1022, 2047, 4095]
theorem turnstilelaw24_AuditTwo.tab13 : rtab .any (opsOf Try.f6 13) = turnstilelaw24_AuditTwo.T13 := by kernel_rfl
theorem turnstilelaw24_AuditTwo.bits13 : waitsOk turnstilelaw24_AuditTwo.T13.2 turnstilelaw24_AuditTwo.B13 = true := by kernel_rfl
set_option maxHeartbeats 8000000 in
set_option maxRecDepth 100000 in
theorem turnstilelaw24_AuditTwo.calls (k : Nat) (a0_0 : Int) (a0_1 : Int) (a0_2 : Int) (a0_3 : Int) (a0_4 : Int) (A1 : Option Addr) (c1 : Nat) (l1 : List (S31)) (a2 : Int) (r : Bool) (w : World) (hr1 : Kd.C k31 w A1 l1.length l1) (hc1 : l1.length ≤ c1) (h : turnstilelaw24_AuditTwo.f k a0_0 a0_1 a0_2 a0_3 a0_4 l1 a2 = some r) :
    Calls Try.prog 6 #[.agg #[.int .i64 a0_0, .int .u64 a0_1, .int .u64 a0_2, .int .u64 a0_3, .int .u64 a0_4], .slice A1 l1.length c1, .int .i64 a2] w fun e w' => e = .returned (.bool r) ∧ Below w.heap.size w w' := by
  have hu24 := Try.underlying24
  have hu60 := Try.underlying60
  have HR1 := Aside0.mk hr1
  have HC1 := Aside0.mk hc1
  clear hr1 hc1
  have HB := Aside0.mk (Below.refl w.heap.size w)
  have H : ((turnstilelaw24_awake.f k).bind fun t595 => (if t595 = true then (if a0_0 = 1 then (if (l1.length : Int) = 0 then (turnstilelaw24_AuditTwo.j0 k l1 a2 true a0_0 a0_1 a0_2 a0_3 a0_4) else (if (l1.length : Int) > 1048576 then (turnstilelaw24_AuditTwo.j0 k l1 a2 true a0_0 a0_1 a0_2 a0_3 a0_4) else ((audit_Conforms.f k a0_0 a0_1 a0_2 a0_3 a0_4 l1).bind fun t596 => (turnstilelaw24_AuditTwo.j0 k l1 a2 (!t596) a0_0 a0_1 a0_2 a0_3 a0_4)))) else (turnstilelaw24_AuditTwo.j0 k l1 a2 true a0_0 a0_1 a0_2 a0_3 a0_4)) else (some false))) = some r := h
  clear h
  replace H := Option.bind_eq_some_iff.mp H
  obtain ⟨t595, A40, H⟩ := H
  replace H : (if t595 = true then (if a0_0 = 1 then (if (l1.length : Int) = 0 then (turnstilelaw24_AuditTwo.j0 k l1 a2 true a0_0 a0_1 a0_2 a0_3 a0_4) else (if (l1.length : Int) > 1048576 then (turnstilelaw24_AuditTwo.j0 k l1 a2 true a0_0 a0_1 a0_2 a0_3 a0_4) else ((audit_Conforms.f k a0_0 a0_1 a0_2 a0_3 a0_4 l1).bind fun t596 => (turnstilelaw24_AuditTwo.j0 k l1 a2 (!t596) a0_0 a0_1 a0_2 a0_3 a0_4)))) else (turnstilelaw24_AuditTwo.j0 k l1 a2 true a0_0 a0_1 a0_2 a0_3 a0_4)) else (some false)) = some r := H
  have A4 := Aside0.mk A40
  clear A40
  by_cases c5 : t595 = true
  · subst c5
    have H1 : (if a0_0 = 1 then (if (l1.length : Int) = 0 then (turnstilelaw24_AuditTwo.j0 k l1 a2 true a0_0 a0_1 a0_2 a0_3 a0_4) else (if (l1.length : Int) > 1048576 then (turnstilelaw24_AuditTwo.j0 k l1 a2 true a0_0 a0_1 a0_2 a0_3 a0_4) else ((audit_Conforms.f k a0_0 a0_1 a0_2 a0_3 a0_4 l1).bind fun t596 => (turnstilelaw24_AuditTwo.j0 k l1 a2 (!t596) a0_0 a0_1 a0_2 a0_3 a0_4)))) else (turnstilelaw24_AuditTwo.j0 k l1 a2 true a0_0 a0_1 a0_2 a0_3 a0_4)) = some r := by rw [if_pos rfl] at H; exact H
    clear H
    have H := H1
    clear H1
    have HC6 := Aside0.mk H
    clear H
    go_enter Try.func6, Try.ntmps6
    go_upto_region 3 with (first | ((with_reducible refine gate_dst (N := 3) rfl ?_); (try (refine gate_guard (by rfl) ?_; dsimp only)); refine bx 3 #[.int .i64 a0_0, .int .u64 a0_1, .int .u64 a0_2, .int .u64 a0_3, .int .u64 a0_4] 24 ?_; intro gb594 hg w7 hbox hb; have n0_ := bs HB hb; have n1_ := Aside0.mk (hbox); have n2_ := sz HB hg; have n3_ := sz HB hg; clear HB; have HB := n0_; have BK594 := n1_; have GW594 := n2_; have GE594 := n3_; clear n0_ n1_ n2_ n3_; clear hb hbox hg) | ((with_reducible refine gate_callee (f := 9) rfl ?_); refine gm (some 11) Try.func9 #[] (turnstilelaw24_awake.calls k  true _ A4.out) ?_; intro w8 hb; have n0_ := bb BK594 hb; have n1_ := bs HB hb; clear BK594; clear HB; have BK594 := n0_; have HB := n1_; clear n0_ n1_; (try clear hb); (try clear hb2); (try clear hk); (try clear hi)))
    (try simp only [Act.put, List.setIfInBounds_toArray, List.set_cons_zero, List.set_cons_succ])
    go_cut [31] (fun v31 wc => ∃ (kq : Nat) (x31_5 : Bool), v31 = .bool x31_5 ∧ Aside0 (turnstilelaw24_AuditTwo.j0 kq l1 a2 x31_5 a0_0 a0_1 a0_2 a0_3 a0_4 = some r) ∧ Aside0 (kq ≤ k) ∧ Aside0 (wc.heap[gb594]? = some (.cells #[.int .i64 a0_0, .int .u64 a0_1, .int .u64 a0_2, .int .u64 a0_3, .int .u64 a0_4] 24 (0, 0))) ∧ Aside0 (Below w.heap.size w wc))
    case first =>
      have H := HC6.out
      clear HC6
      by_cases c9 : a0_0 = 1
      · rw [if_pos c9] at H
        have c9b0 : (a0_0 == 1) = true := beq_iff_eq.mpr c9
        have c9b1 : (a0_0 != 1) = false := bne_eq_false_iff_eq.mpr c9
        clear c9
        (first | rw [c9b0] | (simp only [i64_w, i32_w]; rw [c9b0]) | skip)
        by_cases c10 : (l1.length : Int) = 0
        · rw [if_pos c10] at H
          have c10b0 : ((l1.length : Int) == 0) = true := beq_iff_eq.mpr c10
          have c10b1 : ((l1.length : Int) != 0) = false := bne_eq_false_iff_eq.mpr c10
          clear c10
          have H' := Aside0.mk H
          clear H
          obtain ⟨hcz11_0, hcz11_1, hcz11_2, hcz11_3, hcz11_4, hfz11_0, hfz11_1, hfz11_2, hfz11_3, hfz11_4⟩ := bc5 BK594
          go_wp2
          go_meet
          case rel => exact ⟨_, (true), rs, H', ⟨by first | omega | exact Nat.le_refl _⟩, ⟨bk BK594⟩, ⟨bw HB⟩⟩
        · rw [if_neg c10] at H
          have c10b0 : ((l1.length : Int) == 0) = false := beq_eq_false_iff_ne.mpr c10
          have c10b1 : ((l1.length : Int) != 0) = true := bne_iff_ne.mpr c10
          have c10b2 : ¬ (l1 = []) := fun h_ => c10 (by rw [h_]; rfl)
          by_cases c12 : (l1.length : Int) > 1048576
          · rw [if_pos c12] at H
            have c12b0 : decide (1048576 < (l1.length : Int)) = true := decide_eq_true c12
            have c12b1 : decide (1048576 < l1.length) = true := decide_eq_true (by omega)
            clear c12
            have H' := Aside0.mk H
            clear H
            obtain ⟨hcz13_0, hcz13_1, hcz13_2, hcz13_3, hcz13_4, hfz13_0, hfz13_1, hfz13_2, hfz13_3, hfz13_4⟩ := bc5 BK594
            go_wp2
            go_meet
            case rel => exact ⟨_, (true), rs, H', ⟨by first | omega | exact Nat.le_refl _⟩, ⟨bk BK594⟩, ⟨bw HB⟩⟩
          · rw [if_neg c12] at H
            have c12b0 : decide (1048576 < (l1.length : Int)) = false := decide_eq_false c12
            have c12b1 : decide (1048576 < l1.length) = false := decide_eq_false (by omega)
            clear c12
            replace H := Option.bind_eq_some_iff.mp H
            obtain ⟨t596, A140, H⟩ := H
            replace H : (turnstilelaw24_AuditTwo.j0 k l1 a2 (!t596) a0_0 a0_1 a0_2 a0_3 a0_4) = some r := H
            have A14 := Aside0.mk A140
            clear A140
            have H' := Aside0.mk H
            clear H
            obtain ⟨hcz15_0, hcz15_1, hcz15_2, hcz15_3, hcz15_4, hfz15_0, hfz15_1, hfz15_2, hfz15_3, hfz15_4⟩ := bc5 BK594
            go_wp2_with (first | (go_at_call 12; (with_reducible refine (audit_Conforms.calls k a0_0 a0_1 a0_2 a0_3 a0_4 _ _ l1 t596 _ ?side1 ?side2 A14.out).mono ?_); (case side1 => repeat (first | exact (Kd.C_below HR1.out HB.out) | (with_reducible refine Kd.C_alloc ?_ _) | (with_reducible refine Kd.C_drewN ?_ _) | (with_reducible refine Kd.C_drew ?_))); (case side2 => exact HC1.out); rintro e w16 ⟨rfl, hb⟩; have n0_ := bb BK594 hb; have n1_ := bs HB hb; clear BK594; clear HB; have BK594 := n0_; have HB := n1_; clear n0_ n1_; (try clear hb); (try clear hb2); (try clear hk); (try clear hi)))
            go_meet
            case rel => exact ⟨_, (!t596), rs, H', ⟨by first | omega | exact Nat.le_refl _⟩, ⟨bk BK594⟩, ⟨bw HB⟩⟩
      · rw [if_neg c9] at H
        have c9b0 : (a0_0 == 1) = false := beq_eq_false_iff_ne.mpr c9
        have c9b1 : (a0_0 != 1) = true := bne_iff_ne.mpr c9
        (first | rw [c9b0] | (simp only [i64_w, i32_w]; rw [c9b0]) | skip)
        have H' := Aside0.mk H
        clear H
        obtain ⟨hcz17_0, hcz17_1, hcz17_2, hcz17_3, hcz17_4, hfz17_0, hfz17_1, hfz17_2, hfz17_3, hfz17_4⟩ := bc5 BK594
        go_wp2
        go_meet
        case rel => exact ⟨_, (true), rs, H', ⟨by first | omega | exact Nat.le_refl _⟩, ⟨bk BK594⟩, ⟨bw HB⟩⟩
    case rest =>
      clear HC6
      try clear c1
      try clear p2
      try clear c5
      try clear c6
      try clear c9
      try clear c9b0
      try clear c9b1
      try clear c10
      try clear c10b0
      try clear c10b1
      try clear c10b2
      try clear c12
      try clear c12b0
      try clear c12b1
      try clear hcz11_0
      try clear hcz11_1
      try clear hcz11_2
      try clear hcz11_3
      try clear hcz11_4
      try clear hcz13_0
      try clear hcz13_1
      try clear hcz13_2
      try clear hcz13_3
      try clear hcz13_4
      try clear hcz15_0
      try clear hcz15_1
      try clear hcz15_2
      try clear hcz15_3
      try clear hcz15_4
      try clear hcz17_0
      try clear hcz17_1
      try clear hcz17_2
      try clear hcz17_3
      try clear hcz17_4
      try clear hfz11_0
      try clear hfz11_1
      try clear hfz11_2
      try clear hfz11_3
      try clear hfz11_4
      try clear hfz13_0
      try clear hfz13_1
      try clear hfz13_2
      try clear hfz13_3
      try clear hfz13_4
      try clear hfz15_0
      try clear hfz15_1
      try clear hfz15_2
      try clear hfz15_3
      try clear hfz15_4
      try clear hfz17_0
      try clear hfz17_1
      try clear hfz17_2
      try clear hfz17_3
      try clear hfz17_4
      obtain ⟨kq, x31_5, rfl, HA, HJ5, BK594, HB⟩ := hcut
      cases kq with
      | zero => exact absurd HA.out (by simp [turnstilelaw24_AuditTwo.j0])
      | succ kj5 =>
        have H := HA.out
        clear HA
        simp only [turnstilelaw24_AuditTwo.j0] at H
        by_cases c18 : x31_5 = true
        · subst c18
          have H1 : (some true) = some r := by rw [if_pos rfl] at H; exact H
          clear H
          have H := H1
          clear H1
          obtain rfl := Option.some.inj H
          go_wp2
          go_ret
          exact ⟨re, bw HB⟩
        · replace c18 := Bool.eq_false_iff.mpr c18
          subst c18
          have H1 : (if (IntKind.u64.wrap ((l1.length : Int))) = 0 then (none) else (if 0 ≤ (wrap64 (Int.tmod (IntKind.u64.wrap (a2)) (IntKind.u64.wrap ((l1.length : Int))))) then (if (wrap64 (Int.tmod (IntKind.u64.wrap (a2)) (IntKind.u64.wrap ((l1.length : Int))))) < (l1.length : Int) then ((sat_Of.f ((rd_T31 l1 (wrap64 (Int.tmod (IntKind.u64.wrap (a2)) (IntKind.u64.wrap ((l1.length : Int)))))).f0)).bind fun bt598 => (turnstilelaw24_AuditTwo.l0 kj5 l1 (wrap64 (Int.tmod (IntKind.u64.wrap (a2)) (IntKind.u64.wrap ((l1.length : Int))))) a0_0 a0_1 a0_2 a0_3 a0_4 bt598.1 bt598.2)) else (none)) else (none))) = some r := by rw [if_neg (show ¬ (false = true) by decide)] at H; exact H
          clear H
          have H := H1
          clear H1
          by_cases c19 : (IntKind.u64.wrap ((l1.length : Int))) = 0
          · rw [if_pos c19] at H
            exact absurd H (by simp)
          · rw [if_neg c19] at H
            have c19b0 : ((IntKind.u64.wrap ((l1.length : Int))) == 0) = false := beq_eq_false_iff_ne.mpr c19
            have c19b1 : ((IntKind.u64.wrap ((l1.length : Int))) != 0) = true := bne_iff_ne.mpr c19
            obtain ⟨ji20, hji20⟩ : ∃ j_ : Int, (wrap64 (Int.tmod (IntKind.u64.wrap (a2)) (IntKind.u64.wrap ((l1.length : Int))))) = j_ := ⟨_, rfl⟩
            replace H : (if 0 ≤ (ji20) then (if (ji20) < (l1.length : Int) then ((sat_Of.f ((rd_T31 l1 (ji20)).f0)).bind fun bt598 => (turnstilelaw24_AuditTwo.l0 kj5 l1 ji20 a0_0 a0_1 a0_2 a0_3 a0_4 bt598.1 bt598.2)) else (none)) else (none)) = some r := by first | (rw [hji20] at H; exact H) | (simp only [hji20] at H ⊢; exact H)
            have hji20w : (IntKind.i64.wrap (Int.tmod (IntKind.u64.wrap (a2)) (IntKind.u64.wrap ((l1.length : Int))))) = ji20 := (i64_w _).trans hji20
            by_cases c21 : 0 ≤ (ji20)
            · rw [if_pos c21] at H
              have c21b0 : decide (0 ≤ (ji20)) = true := decide_eq_true c21
              clear c21
              by_cases c22 : (ji20) < (l1.length : Int)
              · rw [if_pos c22] at H
                have c22b0 : decide ((ji20) < (l1.length : Int)) = true := decide_eq_true c22
                clear c22
                replace H := Option.bind_eq_some_iff.mp H
                obtain ⟨⟨t598, t599⟩, A230, H⟩ := H
                replace H : (turnstilelaw24_AuditTwo.l0 kj5 l1 ji20 a0_0 a0_1 a0_2 a0_3 a0_4 t598 t599) = some r := H
                have A23 := Aside0.mk A230
                clear A230
                have H' := Aside0.mk H
                clear H
                have p597 : 0 ≤ ((ji20) : Int) := of_decide_eq_true (by first | (with_reducible assumption) | assumption)
                have q597 : (ji20) < (l1.length : Int) := of_decide_eq_true (by first | (with_reducible assumption) | assumption)
                obtain ⟨ad597, e597, hx597_0, hx597_1⟩ := at_T31 HR1.out (ji20) p597 q597
                cases e597
                replace hx597_0 := (HB.out.cell (World.block_lt_of_cell? w _ hx597_0)).trans hx597_0
                replace hx597_1 := (HB.out.cell (World.block_lt_of_cell? w _ hx597_1)).trans hx597_1
                replace p597 := eq_true p597
                replace q597 := eq_true q597
                go_wp2_with (first | ((with_reducible refine gate_callee (f := 18) rfl ?_); refine goesL_ (some 44) rfl rfl Try.func18 (by kernel_rfl) rfl #[.int .u64 ((rd_T31 l1 (ji20)).f0)] rfl (by (try simp only [List.map_toArray, List.map_cons, List.map_nil]); first | done | (simp only [hji20]; rfl) | rfl | (simp only [List.length_drop, List.length_take]; rfl)) ?_; (with_reducible refine (sat_Of.calls ((rd_T31 l1 (ji20)).f0) t598 t599 _ A23.out).mono ?_); rintro e w24 ⟨rfl, hb⟩; refine ⟨_, rfl, ?_⟩; have n0_ := bb BK594 hb; have n1_ := bs HB hb; clear BK594; clear HB; have BK594 := n0_; have HB := n1_; clear n0_ n1_; (try clear hb); (try clear hb2); (try clear hk); (try clear hi)) | ((with_reducible refine gate_dst (N := 8) rfl ?_); (try (refine gate_guard (by rfl) ?_; dsimp only)); refine bx 8 #[.int .u64 0, .int .u64 0] 60 ?_; intro gb600 hg w25 hbox hb; have n0_ := bb BK594 hb; have n1_ := bs HB hb; have n2_ := Aside0.mk (hbox); have n3_ := sz HB hg; have n4_ := sz HB hg; have n5_ := nl BK594 hg; have n6_ := nr BK594 hg; clear BK594; clear HB; have BK594 := n0_; have HB := n1_; have BK600 := n2_; have GW600 := n3_; have GE600 := n4_; have NB594_600 := n5_; have NB600_594 := n6_; clear n0_ n1_ n2_ n3_ n4_ n5_ n6_; clear hb hbox hg; have hnb26 := NB600_594.out; have hnc26 := NB594_600.out; obtain ⟨hcz27_0, hcz27_1, hfz27_0, hfz27_1⟩ := bc2 BK600))
                go_loopg [9] kj5 (fun kq v9 w' => ∃ (x9_2 : Int) (x601000_2 : Int) (x601001_2 : Int), v9 = .int .i64 x9_2 ∧ Aside0 (turnstilelaw24_AuditTwo.l0 kq l1 x9_2 a0_0 a0_1 a0_2 a0_3 a0_4 x601000_2 x601001_2 = some r) ∧ Aside0 (kq ≤ kj5) ∧ Aside0 (w'.heap[gb594]? = some (.cells #[.int .i64 a0_0, .int .u64 a0_1, .int .u64 a0_2, .int .u64 a0_3, .int .u64 a0_4] 24 (0, 0))) ∧ Aside0 (w'.heap[gb600]? = some (.cells #[.int .u64 x601000_2, .int .u64 x601001_2] 60 (0, 0))) ∧ Aside0 (Below w.heap.size w w'))
                case atStart => exact ⟨(ji20), (t598), (t599), (by first | rfl | (simp; done) | (simp only [← hji20] <;> (first | rfl | simp)) | (simp [*]; done)), H', ⟨Nat.le_refl _⟩, ⟨bk BK594⟩, ⟨bk BK600⟩, ⟨bw HB⟩⟩
                case round =>
                  clear H'
                  try clear c1
                  try clear c2
                  try clear p2
                  try clear c5
                  try clear p5
                  try clear q5
                  try clear hx5
                  try clear c6
                  try clear p6
                  try clear c9
                  try clear c9b0
                  try clear c9b1
                  try clear c10
                  try clear c10b0
                  try clear c10b1
                  try clear c10b2
                  try clear c12
                  try clear c12b0
                  try clear c12b1
                  try clear c18
                  try clear c19
                  try clear c19b0
                  try clear c19b1
                  try clear c21
                  try clear c21b0
                  try clear c22
                  try clear c22b0
                  try clear c26
                  try clear hcz11_0
                  try clear hcz11_1
                  try clear hcz11_2
                  try clear hcz11_3
                  try clear hcz11_4
                  try clear hcz13_0
                  try clear hcz13_1
                  try clear hcz13_2
                  try clear hcz13_3
                  try clear hcz13_4
                  try clear hcz15_0
                  try clear hcz15_1
                  try clear hcz15_2
                  try clear hcz15_3
                  try clear hcz15_4
                  try clear hcz17_0
                  try clear hcz17_1
                  try clear hcz17_2
                  try clear hcz17_3
                  try clear hcz17_4
                  try clear hcz27_0
                  try clear hcz27_1
                  try clear hfz11_0
                  try clear hfz11_1
                  try clear hfz11_2
                  try clear hfz11_3
                  try clear hfz11_4
                  try clear hfz13_0
                  try clear hfz13_1
                  try clear hfz13_2
                  try clear hfz13_3
                  try clear hfz13_4
                  try clear hfz15_0
                  try clear hfz15_1
                  try clear hfz15_2
                  try clear hfz15_3
                  try clear hfz15_4
                  try clear hfz17_0
                  try clear hfz17_1
                  try clear hfz17_2
                  try clear hfz17_3
                  try clear hfz17_4
                  try clear hfz27_0
                  try clear hfz27_1
                  try clear hx597_0
                  try clear hx597_1
                  try clear p2
                  try clear p597
                  try clear q597
                  obtain ⟨x9_2, x601000_2, x601001_2, rfl, HA, HK2, BK594, BK600, HB⟩ := hrel
                  cases gk with
                  | zero => exact absurd HA.out (by simp [turnstilelaw24_AuditTwo.l0])
                  | succ k2 =>
                    have H := HA.out
                    clear HA
                    simp only [turnstilelaw24_AuditTwo.l0] at H
                    by_cases c28 : x9_2 < (l1.length : Int)
                    · rw [if_pos c28] at H
                      have c28b0 : decide (x9_2 < (l1.length : Int)) = true := decide_eq_true c28
                      clear c28
                      by_cases c29 : 0 ≤ x9_2
                      · rw [if_pos c29] at H
                        have c29b0 : decide (0 ≤ x9_2) = true := decide_eq_true c29
                        clear c29
                        by_cases c30 : ((rd_T31 l1 x9_2).f1) = 0
                        · rw [if_pos c30] at H
                          have c30b0 : (((rd_T31 l1 x9_2).f1) == 0) = true := beq_iff_eq.mpr c30
                          have c30b1 : (((rd_T31 l1 x9_2).f1) != 0) = false := bne_eq_false_iff_eq.mpr c30
                          clear c30
                          obtain rfl := Option.some.inj H
                          have p601 : 0 ≤ (x9_2 : Int) := of_decide_eq_true (by first | (with_reducible assumption) | assumption)
                          have q601 : x9_2 < (l1.length : Int) := of_decide_eq_true (by first | (with_reducible assumption) | assumption)
                          obtain ⟨ad601, e601, hx601_0, hx601_1⟩ := at_T31 HR1.out x9_2 p601 q601
                          obtain rfl : ad597 = ad601 := (by injection e601)
                          replace hx601_0 := (HB.out.cell (World.block_lt_of_cell? w _ hx601_0)).trans hx601_0
                          replace hx601_1 := (HB.out.cell (World.block_lt_of_cell? w _ hx601_1)).trans hx601_1
                          replace p601 := eq_true p601
                          replace q601 := eq_true q601
                          go_wp2
                          go_ret
                          exact ⟨by first | rfl | (simp [errW_none, errW_some] <;> rfl) | (simp only [← hji20]; first | rfl | (simp [errW_none, errW_some] <;> rfl)) | (simp [*, errW_none, errW_some] <;> rfl), bw HB⟩
                        · rw [if_neg c30] at H
                          have c30b0 : (((rd_T31 l1 x9_2).f1) == 0) = false := beq_eq_false_iff_ne.mpr c30
                          have c30b1 : (((rd_T31 l1 x9_2).f1) != 0) = true := bne_iff_ne.mpr c30
                          replace H := Option.bind_eq_some_iff.mp H
                          obtain ⟨⟨t603, t604⟩, A310, H⟩ := H
                          replace H : ((sat_Wide_Plus.f x601000_2 x601001_2 t603 t604).bind fun bt605 => ((sat_Of.f ((rd_T31 l1 x9_2).f0)).bind fun bt609 => ((sat_Of.f a0_2).bind fun bt611 => ((sat_Wide_Plus.f bt609.1 bt609.2 bt611.1 bt611.2).bind fun bt613 => ((sat_Wide_Cmp.f bt605.1 bt605.2 bt613.1 bt613.2).bind fun t615 => (if t615 > 0 then (some false) else ((sat_Of.f a0_1).bind fun bt616 => ((sat_Wide_Plus.f bt605.1 bt605.2 bt616.1 bt616.2).bind fun bt618 => (turnstilelaw24_AuditTwo.l0 k2 l1 (wrap64 (x9_2 + 1)) a0_0 a0_1 a0_2 a0_3 a0_4 bt618.1 bt618.2))))))))) = some r := H
                          have A31 := Aside0.mk A310
                          clear A310
                          replace H := Option.bind_eq_some_iff.mp H
                          obtain ⟨⟨t605, t606⟩, A320, H⟩ := H
                          replace H : ((sat_Of.f ((rd_T31 l1 x9_2).f0)).bind fun bt609 => ((sat_Of.f a0_2).bind fun bt611 => ((sat_Wide_Plus.f bt609.1 bt609.2 bt611.1 bt611.2).bind fun bt613 => ((sat_Wide_Cmp.f t605 t606 bt613.1 bt613.2).bind fun t615 => (if t615 > 0 then (some false) else ((sat_Of.f a0_1).bind fun bt616 => ((sat_Wide_Plus.f t605 t606 bt616.1 bt616.2).bind fun bt618 => (turnstilelaw24_AuditTwo.l0 k2 l1 (wrap64 (x9_2 + 1)) a0_0 a0_1 a0_2 a0_3 a0_4 bt618.1 bt618.2)))))))) = some r := H
                          have A32 := Aside0.mk A320
                          clear A320
                          replace H := Option.bind_eq_some_iff.mp H
                          obtain ⟨⟨t609, t610⟩, A330, H⟩ := H
                          replace H : ((sat_Of.f a0_2).bind fun bt611 => ((sat_Wide_Plus.f t609 t610 bt611.1 bt611.2).bind fun bt613 => ((sat_Wide_Cmp.f t605 t606 bt613.1 bt613.2).bind fun t615 => (if t615 > 0 then (some false) else ((sat_Of.f a0_1).bind fun bt616 => ((sat_Wide_Plus.f t605 t606 bt616.1 bt616.2).bind fun bt618 => (turnstilelaw24_AuditTwo.l0 k2 l1 (wrap64 (x9_2 + 1)) a0_0 a0_1 a0_2 a0_3 a0_4 bt618.1 bt618.2))))))) = some r := H
                          have A33 := Aside0.mk A330
                          clear A330
                          replace H := Option.bind_eq_some_iff.mp H
                          obtain ⟨⟨t611, t612⟩, A340, H⟩ := H
                          replace H : ((sat_Wide_Plus.f t609 t610 t611 t612).bind fun bt613 => ((sat_Wide_Cmp.f t605 t606 bt613.1 bt613.2).bind fun t615 => (if t615 > 0 then (some false) else ((sat_Of.f a0_1).bind fun bt616 => ((sat_Wide_Plus.f t605 t606 bt616.1 bt616.2).bind fun bt618 => (turnstilelaw24_AuditTwo.l0 k2 l1 (wrap64 (x9_2 + 1)) a0_0 a0_1 a0_2 a0_3 a0_4 bt618.1 bt618.2)))))) = some r := H
                          have A34 := Aside0.mk A340
                          clear A340
                          replace H := Option.bind_eq_some_iff.mp H
                          obtain ⟨⟨t613, t614⟩, A350, H⟩ := H
                          replace H : ((sat_Wide_Cmp.f t605 t606 t613 t614).bind fun t615 => (if t615 > 0 then (some false) else ((sat_Of.f a0_1).bind fun bt616 => ((sat_Wide_Plus.f t605 t606 bt616.1 bt616.2).bind fun bt618 => (turnstilelaw24_AuditTwo.l0 k2 l1 (wrap64 (x9_2 + 1)) a0_0 a0_1 a0_2 a0_3 a0_4 bt618.1 bt618.2))))) = some r := H
                          have A35 := Aside0.mk A350
                          clear A350
                          replace H := Option.bind_eq_some_iff.mp H
                          obtain ⟨t615, A360, H⟩ := H
                          replace H : (if t615 > 0 then (some false) else ((sat_Of.f a0_1).bind fun bt616 => ((sat_Wide_Plus.f t605 t606 bt616.1 bt616.2).bind fun bt618 => (turnstilelaw24_AuditTwo.l0 k2 l1 (wrap64 (x9_2 + 1)) a0_0 a0_1 a0_2 a0_3 a0_4 bt618.1 bt618.2)))) = some r := H
                          have A36 := Aside0.mk A360
                          clear A360
                          by_cases c37 : t615 > 0
                          · rw [if_pos c37] at H
                            have c37b0 : decide (0 < t615) = true := decide_eq_true c37
                            clear c37
                            obtain rfl := Option.some.inj H
                            have p601 : 0 ≤ (x9_2 : Int) := of_decide_eq_true (by first | (with_reducible assumption) | assumption)
                            have q601 : x9_2 < (l1.length : Int) := of_decide_eq_true (by first | (with_reducible assumption) | assumption)
                            obtain ⟨ad601, e601, hx601_0, hx601_1⟩ := at_T31 HR1.out x9_2 p601 q601
                            obtain rfl : ad597 = ad601 := (by injection e601)
                            replace hx601_0 := (HB.out.cell (World.block_lt_of_cell? w _ hx601_0)).trans hx601_0
                            replace hx601_1 := (HB.out.cell (World.block_lt_of_cell? w _ hx601_1)).trans hx601_1
                            replace p601 := eq_true p601
                            replace q601 := eq_true q601
                            try go_wp2
                            have n0_ := Aside0.mk (blk_drew BK594.out)
                            have n1_ := Aside0.mk (blk_drew BK600.out)
                            have n2_ := Aside0.mk (below_drew1 HB.out)
                            clear BK594
                            clear BK600
                            clear HB
                            have BK594 := n0_
                            have BK600 := n1_
                            have HB := n2_
                            clear n0_ n1_ n2_
                            have p602 : 0 ≤ (x9_2 : Int) := of_decide_eq_true (by first | (with_reducible assumption) | assumption)
                            have q602 : x9_2 < (l1.length : Int) := of_decide_eq_true (by first | (with_reducible assumption) | assumption)
                            obtain ⟨ad602, e602, hx602_0, hx602_1⟩ := at_T31 HR1.out x9_2 p602 q602
                            have hw602_1 := hx602_1
                            have hw602_0 := hx602_0
                            obtain rfl : ad597 = ad602 := (by injection e602)
                            replace hx602_0 := (HB.out.cell (World.block_lt_of_cell? w _ hx602_0)).trans hx602_0
                            replace hx602_1 := (HB.out.cell (World.block_lt_of_cell? w _ hx602_1)).trans hx602_1
                            replace p602 := eq_true p602
                            replace q602 := eq_true q602
                            refine start_ (n := 13) (S := fun w' => w'.cell? ⟨gb600, 0, none⟩ = some (.int .u64 x601000_2) ∧ w'.cell? ⟨gb600, 1, none⟩ = some (.int .u64 x601001_2) ∧ w'.cell? ⟨gb594, 0, none⟩ = some (.int .i64 a0_0) ∧ w'.cell? ⟨gb594, 1, none⟩ = some (.int .u64 a0_1) ∧ w'.cell? ⟨gb594, 2, none⟩ = some (.int .u64 a0_2) ∧ w'.cell? ⟨gb594, 3, none⟩ = some (.int .u64 a0_3) ∧ w'.cell? ⟨gb594, 4, none⟩ = some (.int .u64 a0_4) ∧ w'.cell? (ad597.add ((x9_2).toNat * 2)) = some (.int .u64 ((rd_T31 l1 x9_2).f0)) ∧ w'.cell? ⟨(ad597.add ((x9_2).toNat * 2)).block, (ad597.add ((x9_2).toNat * 2)).off + 1, none⟩ = some (.int .u64 ((rd_T31 l1 x9_2).f1))) (ds := []) #[false, false, false, false, false, false, false, false, false, false, false, false, false] (by kernel_rfl) rfl rfl ⟨(blk_cell BK600.out 0).trans rfl, (blk_cell BK600.out 1).trans rfl, (blk_cell BK594.out 0).trans rfl, (blk_cell BK594.out 1).trans rfl, (blk_cell BK594.out 2).trans rfl, (blk_cell BK594.out 3).trans rfl, (blk_cell BK594.out 4).trans rfl, ((HB.out.cell (World.block_lt_of_cell? w _ hw602_0)).trans hw602_0), ((HB.out.cell (World.block_lt_of_cell? w _ hw602_1)).trans hw602_1)⟩ (fun hHeld => ?_); refine with_tabW turnstilelaw24_AuditTwo.tab12 turnstilelaw24_AuditTwo.bits12 (fun HT_ HW_ => ?_)
                            generalize wr.drew = w38 at BK594 BK600 HB hx602_0 hx602_1 hHeld ⊢
                            refine chain_ (fuel := 4) [(1, 0, some 59), (2, 0, some 60), (3, 0, some 61), (4, 0, some 62), (7, 0, some 65), (0, 1, some 58), (5, 1, some 63), (6, 0, some 64), (8, 1, some 66)] #[true, true, true, true, true, true, true, true, true, false, false, false, false] HT_.out HW_.out (by kernel_rfl) (fun _ _ _ _ _ h => h) (Or.inr hHeld) rfl ?_
                            (iterate 5 refine lkP ?_); (iterate 2 refine lkT ?_); refine lkP ?_; refine lkT ?_; refine .nil ?_
                            refine join_ (σ := Nat) 1 #[true, true, true, true, true, true, true, true, true, true, true, true, false] (fun s_ => [(67, .agg #[.int .u64 t603, .int .u64 t604]), (68, .agg #[.int .u64 t605, .int .u64 t606]), (10, .pointer (some ⟨s_, 0, none⟩))]) (fun s_ w' => (w'.cell? ⟨gb600, 0, none⟩ = some (.int .u64 x601000_2) ∧ w'.cell? ⟨gb600, 1, none⟩ = some (.int .u64 x601001_2) ∧ w'.cell? ⟨gb594, 0, none⟩ = some (.int .i64 a0_0) ∧ w'.cell? ⟨gb594, 1, none⟩ = some (.int .u64 a0_1) ∧ w'.cell? ⟨gb594, 2, none⟩ = some (.int .u64 a0_2) ∧ w'.cell? ⟨gb594, 3, none⟩ = some (.int .u64 a0_3) ∧ w'.cell? ⟨gb594, 4, none⟩ = some (.int .u64 a0_4) ∧ w'.cell? (ad597.add ((x9_2).toNat * 2)) = some (.int .u64 ((rd_T31 l1 x9_2).f0)) ∧ w'.cell? ⟨(ad597.add ((x9_2).toNat * 2)).block, (ad597.add ((x9_2).toNat * 2)).off + 1, none⟩ = some (.int .u64 ((rd_T31 l1 x9_2).f1))) ∧ (w'.heap[gb594]? = some (.cells #[.int .i64 a0_0, .int .u64 a0_1, .int .u64 a0_2, .int .u64 a0_3, .int .u64 a0_4] 24 (0, 0))) ∧ (w'.heap[gb600]? = some (.cells #[.int .u64 x601000_2, .int .u64 x601001_2] 60 (0, 0))) ∧ (w'.heap[s_]? = some (.cells #[.int .u64 0, .int .u64 0] 60 (0, 0))) ∧ (w.heap.size ≤ s_) ∧ (w.heap.size ≤ s_) ∧ (gb594 ≠ s_) ∧ (s_ ≠ gb594) ∧ (gb600 ≠ s_) ∧ (s_ ≠ gb600) ∧ (Below w.heap.size w w')) ?_ ?_
                            rotate_left
                            · intro hCont
                              refine two_ (i := 9) (j := 11) (Ni := some 67) (Nj := some 10) #[true, true, true, true, true, true, true, true, true, true, false, false, false] #[true, true, true, true, true, true, true, true, true, false, false, true, false] rfl rfl rfl rfl (two_of HT_.out (by kernel_rfl)) (by decide) (by decide) (fun K hK => ?_) (fun K hK => ?_)
                              · skip
                                refine ge Try.func20 #[.int .u64 (IntKind.u64.wrap (((rd_T31 l1 x9_2).f1) - 1)), .int .u64 a0_1] ?_
                                with_reducible refine (sat_Product.calls (IntKind.u64.wrap (((rd_T31 l1 x9_2).f1) - 1)) a0_1 t603 t604 _ A31.out).mono ?_
                                rintro e w39 ⟨rfl, hb⟩
                                refine ⟨_, rfl, ?_⟩
                                have n0_ := bb BK594 hb
                                have n1_ := bb BK600 hb
                                have n2_ := bs HB hb
                                clear BK594
                                clear BK600
                                clear HB
                                have BK594 := n0_
                                have BK600 := n1_
                                have HB := n2_
                                clear n0_ n1_ n2_
                                (try clear hb)
                                (try clear hb2)
                                (try clear hk)
                                (try clear hi)
                                refine hK.out _ _ ⟨(blk_cell BK600.out 0).trans rfl, (blk_cell BK600.out 1).trans rfl, (blk_cell BK594.out 0).trans rfl, (blk_cell BK594.out 1).trans rfl, (blk_cell BK594.out 2).trans rfl, (blk_cell BK594.out 3).trans rfl, (blk_cell BK594.out 4).trans rfl, ((HB.out.cell (World.block_lt_of_cell? w _ hw602_0)).trans hw602_0), ((HB.out.cell (World.block_lt_of_cell? w _ hw602_1)).trans hw602_1)⟩ (fun hHeld => ?_)
                                clear hK K
                                refine norm_ (a' := ?_) ?_ ?_
                                rotate_left
                                · show Act.put _ (some 67) _ = _
                                  simp only [Act.put, List.setIfInBounds_toArray, List.set_cons_zero, List.set_cons_succ, i64_w, i32_w]
                                  rfl
                                refine two_ (i := 10) (j := 11) (Ni := some 68) (Nj := some 10) #[true, true, true, true, true, true, true, true, true, true, true, false, false] #[true, true, true, true, true, true, true, true, true, true, false, true, false] rfl rfl rfl rfl (two_of HT_.out (by kernel_rfl)) (by decide) (by decide) (fun K hK => ?_) (fun K hK => ?_)
                                · skip
                                  refine ge Try.func19 #[.agg #[.int .u64 x601000_2, .int .u64 x601001_2], .agg #[.int .u64 t603, .int .u64 t604]] ?_
                                  with_reducible refine (sat_Wide_Plus.calls x601000_2 x601001_2 t603 t604 t605 t606 _ A32.out).mono ?_
                                  rintro e w40 ⟨rfl, hb⟩
                                  refine ⟨_, rfl, ?_⟩
                                  have n0_ := bb BK594 hb
                                  have n1_ := bb BK600 hb
                                  have n2_ := bs HB hb
                                  clear BK594
                                  clear BK600
                                  clear HB
                                  have BK594 := n0_
                                  have BK600 := n1_
                                  have HB := n2_
                                  clear n0_ n1_ n2_
                                  (try clear hb)
                                  (try clear hb2)
                                  (try clear hk)
                                  (try clear hi)
                                  refine hK.out _ _ ⟨(blk_cell BK600.out 0).trans rfl, (blk_cell BK600.out 1).trans rfl, (blk_cell BK594.out 0).trans rfl, (blk_cell BK594.out 1).trans rfl, (blk_cell BK594.out 2).trans rfl, (blk_cell BK594.out 3).trans rfl, (blk_cell BK594.out 4).trans rfl, ((HB.out.cell (World.block_lt_of_cell? w _ hw602_0)).trans hw602_0), ((HB.out.cell (World.block_lt_of_cell? w _ hw602_1)).trans hw602_1)⟩ (fun hHeld => ?_)
                                  clear hK K
                                  refine norm_ (a' := ?_) ?_ ?_
                                  rotate_left
                                  · show Act.put _ (some 68) _ = _
                                    simp only [Act.put, List.setIfInBounds_toArray, List.set_cons_zero, List.set_cons_succ, i64_w, i32_w]
                                    rfl
                                  refine one_ (i := 11) (N := some 10) #[true, true, true, true, true, true, true, true, true, true, true, true, false] rfl rfl (one_of HT_.out (by kernel_rfl)) (by decide) (fun K hK => ?_)
                                  refine box_step ?hg (N := 10) ?hd (cs := #[.int .u64 0, .int .u64 0]) (t := 60) ?hr ?_; (case hd => rfl); (case hg => rfl); (case hr => first | (go_simp; done) | (go_simp; rfl))
                                  intro gb607 hg w41 hbox hb
                                  have n0_ := bb BK594 hb
                                  have n1_ := bb BK600 hb
                                  have n2_ := bs HB hb
                                  have n3_ := Aside0.mk (hbox)
                                  have n4_ := sz HB hg
                                  have n5_ := sz HB hg
                                  have n6_ := nl BK594 hg
                                  have n7_ := nr BK594 hg
                                  have n8_ := nl BK600 hg
                                  have n9_ := nr BK600 hg
                                  clear BK594
                                  clear BK600
                                  clear HB
                                  have BK594 := n0_
                                  have BK600 := n1_
                                  have HB := n2_
                                  have BK607 := n3_
                                  have GW607 := n4_
                                  have GE607 := n5_
                                  have NB594_607 := n6_
                                  have NB607_594 := n7_
                                  have NB600_607 := n8_
                                  have NB607_600 := n9_
                                  clear n0_ n1_ n2_ n3_ n4_ n5_ n6_ n7_ n8_ n9_
                                  clear hb hbox hg
                                  refine hK.out _ _ ⟨(blk_cell BK600.out 0).trans rfl, (blk_cell BK600.out 1).trans rfl, (blk_cell BK594.out 0).trans rfl, (blk_cell BK594.out 1).trans rfl, (blk_cell BK594.out 2).trans rfl, (blk_cell BK594.out 3).trans rfl, (blk_cell BK594.out 4).trans rfl, ((HB.out.cell (World.block_lt_of_cell? w _ hw602_0)).trans hw602_0), ((HB.out.cell (World.block_lt_of_cell? w _ hw602_1)).trans hw602_1)⟩ (fun hHeld => ?_)
                                  clear hK K
                                  refine norm_ (a' := ?_) ?_ ?_
                                  rotate_left
                                  · show Act.put _ (some 10) _ = _
                                    simp only [Act.put, List.setIfInBounds_toArray, List.set_cons_zero, List.set_cons_succ, i64_w, i32_w]
                                    rfl
                                  exact norm_ (by simp only [putAll, Act.put, List.setIfInBounds_toArray, List.set_cons_zero, List.set_cons_succ]) (hCont (gb607) _ ⟨hHeld, (bk BK594), (bk BK600), (bk BK607), GW607.out, GE607.out, NB594_607.out, NB607_594.out, NB600_607.out, NB607_600.out, (bw HB)⟩)
                                · skip
                                  refine box_step ?hg (N := 10) ?hd (cs := #[.int .u64 0, .int .u64 0]) (t := 60) ?hr ?_; (case hd => rfl); (case hg => rfl); (case hr => first | (go_simp; done) | (go_simp; rfl))
                                  intro gb607 hg w40 hbox hb
                                  have n0_ := bb BK594 hb
                                  have n1_ := bb BK600 hb
                                  have n2_ := bs HB hb
                                  have n3_ := Aside0.mk (hbox)
                                  have n4_ := sz HB hg
                                  have n5_ := sz HB hg
                                  have n6_ := nl BK594 hg
                                  have n7_ := nr BK594 hg
                                  have n8_ := nl BK600 hg
                                  have n9_ := nr BK600 hg
                                  clear BK594
                                  clear BK600
                                  clear HB
                                  have BK594 := n0_
                                  have BK600 := n1_
                                  have HB := n2_
                                  have BK607 := n3_
                                  have GW607 := n4_
                                  have GE607 := n5_
                                  have NB594_607 := n6_
                                  have NB607_594 := n7_
                                  have NB600_607 := n8_
                                  have NB607_600 := n9_
                                  clear n0_ n1_ n2_ n3_ n4_ n5_ n6_ n7_ n8_ n9_
                                  clear hb hbox hg
                                  refine hK.out _ _ ⟨(blk_cell BK600.out 0).trans rfl, (blk_cell BK600.out 1).trans rfl, (blk_cell BK594.out 0).trans rfl, (blk_cell BK594.out 1).trans rfl, (blk_cell BK594.out 2).trans rfl, (blk_cell BK594.out 3).trans rfl, (blk_cell BK594.out 4).trans rfl, ((HB.out.cell (World.block_lt_of_cell? w _ hw602_0)).trans hw602_0), ((HB.out.cell (World.block_lt_of_cell? w _ hw602_1)).trans hw602_1)⟩ (fun hHeld => ?_)
                                  clear hK K
                                  refine norm_ (a' := ?_) ?_ ?_
                                  rotate_left
                                  · show Act.put _ (some 10) _ = _
                                    simp only [Act.put, List.setIfInBounds_toArray, List.set_cons_zero, List.set_cons_succ, i64_w, i32_w]
                                    rfl
                                  refine one_ (i := 10) (N := some 68) #[true, true, true, true, true, true, true, true, true, true, true, true, false] rfl rfl (one_of HT_.out (by kernel_rfl)) (by decide) (fun K hK => ?_)
                                  refine ge Try.func19 #[.agg #[.int .u64 x601000_2, .int .u64 x601001_2], .agg #[.int .u64 t603, .int .u64 t604]] ?_
                                  with_reducible refine (sat_Wide_Plus.calls x601000_2 x601001_2 t603 t604 t605 t606 _ A32.out).mono ?_
                                  rintro e w41 ⟨rfl, hb⟩
                                  refine ⟨_, rfl, ?_⟩
                                  have n0_ := bb BK594 hb
                                  have n1_ := bb BK600 hb
                                  have n2_ := bb BK607 hb
                                  have n3_ := bs HB hb
                                  clear BK594
                                  clear BK600
                                  clear BK607
                                  clear HB
                                  have BK594 := n0_
                                  have BK600 := n1_
                                  have BK607 := n2_
                                  have HB := n3_
                                  clear n0_ n1_ n2_ n3_
                                  (try clear hb)
                                  (try clear hb2)
                                  (try clear hk)
                                  (try clear hi)
                                  refine hK.out _ _ ⟨(blk_cell BK600.out 0).trans rfl, (blk_cell BK600.out 1).trans rfl, (blk_cell BK594.out 0).trans rfl, (blk_cell BK594.out 1).trans rfl, (blk_cell BK594.out 2).trans rfl, (blk_cell BK594.out 3).trans rfl, (blk_cell BK594.out 4).trans rfl, ((HB.out.cell (World.block_lt_of_cell? w _ hw602_0)).trans hw602_0), ((HB.out.cell (World.block_lt_of_cell? w _ hw602_1)).trans hw602_1)⟩ (fun hHeld => ?_)
                                  clear hK K
                                  refine norm_ (a' := ?_) ?_ ?_
                                  rotate_left
                                  · show Act.put _ (some 68) _ = _
                                    simp only [Act.put, List.setIfInBounds_toArray, List.set_cons_zero, List.set_cons_succ, i64_w, i32_w]
                                    rfl
                                  exact norm_ (by simp only [putAll, Act.put, List.setIfInBounds_toArray, List.set_cons_zero, List.set_cons_succ]) (hCont (gb607) _ ⟨hHeld, (bk BK594), (bk BK600), (bk BK607), GW607.out, GE607.out, NB594_607.out, NB607_594.out, NB600_607.out, NB607_600.out, (bw HB)⟩)
                              · skip
                                refine box_step ?hg (N := 10) ?hd (cs := #[.int .u64 0, .int .u64 0]) (t := 60) ?hr ?_; (case hd => rfl); (case hg => rfl); (case hr => first | (go_simp; done) | (go_simp; rfl))
                                intro gb607 hg w39 hbox hb
                                have n0_ := bb BK594 hb
                                have n1_ := bb BK600 hb
                                have n2_ := bs HB hb
                                have n3_ := Aside0.mk (hbox)
                                have n4_ := sz HB hg
                                have n5_ := sz HB hg
                                have n6_ := nl BK594 hg
                                have n7_ := nr BK594 hg
                                have n8_ := nl BK600 hg
                                have n9_ := nr BK600 hg
                                clear BK594
                                clear BK600
                                clear HB
                                have BK594 := n0_
                                have BK600 := n1_
                                have HB := n2_
                                have BK607 := n3_
                                have GW607 := n4_
                                have GE607 := n5_
                                have NB594_607 := n6_
                                have NB607_594 := n7_
                                have NB600_607 := n8_
                                have NB607_600 := n9_
                                clear n0_ n1_ n2_ n3_ n4_ n5_ n6_ n7_ n8_ n9_
                                clear hb hbox hg
                                refine hK.out _ _ ⟨(blk_cell BK600.out 0).trans rfl, (blk_cell BK600.out 1).trans rfl, (blk_cell BK594.out 0).trans rfl, (blk_cell BK594.out 1).trans rfl, (blk_cell BK594.out 2).trans rfl, (blk_cell BK594.out 3).trans rfl, (blk_cell BK594.out 4).trans rfl, ((HB.out.cell (World.block_lt_of_cell? w _ hw602_0)).trans hw602_0), ((HB.out.cell (World.block_lt_of_cell? w _ hw602_1)).trans hw602_1)⟩ (fun hHeld => ?_)
                                clear hK K
                                refine norm_ (a' := ?_) ?_ ?_
                                rotate_left
                                · show Act.put _ (some 10) _ = _
                                  simp only [Act.put, List.setIfInBounds_toArray, List.set_cons_zero, List.set_cons_succ, i64_w, i32_w]
                                  rfl
                                refine one_ (i := 9) (N := some 67) #[true, true, true, true, true, true, true, true, true, true, false, true, false] rfl rfl (one_of HT_.out (by kernel_rfl)) (by decide) (fun K hK => ?_)
                                refine ge Try.func20 #[.int .u64 (IntKind.u64.wrap (((rd_T31 l1 x9_2).f1) - 1)), .int .u64 a0_1] ?_
                                with_reducible refine (sat_Product.calls (IntKind.u64.wrap (((rd_T31 l1 x9_2).f1) - 1)) a0_1 t603 t604 _ A31.out).mono ?_
                                rintro e w40 ⟨rfl, hb⟩
                                refine ⟨_, rfl, ?_⟩
                                have n0_ := bb BK594 hb
                                have n1_ := bb BK600 hb
                                have n2_ := bb BK607 hb
                                have n3_ := bs HB hb
                                clear BK594
                                clear BK600
                                clear BK607
                                clear HB
                                have BK594 := n0_
                                have BK600 := n1_
                                have BK607 := n2_
                                have HB := n3_
                                clear n0_ n1_ n2_ n3_
                                (try clear hb)
                                (try clear hb2)
                                (try clear hk)
                                (try clear hi)
                                refine hK.out _ _ ⟨(blk_cell BK600.out 0).trans rfl, (blk_cell BK600.out 1).trans rfl, (blk_cell BK594.out 0).trans rfl, (blk_cell BK594.out 1).trans rfl, (blk_cell BK594.out 2).trans rfl, (blk_cell BK594.out 3).trans rfl, (blk_cell BK594.out 4).trans rfl, ((HB.out.cell (World.block_lt_of_cell? w _ hw602_0)).trans hw602_0), ((HB.out.cell (World.block_lt_of_cell? w _ hw602_1)).trans hw602_1)⟩ (fun hHeld => ?_)
                                clear hK K
                                refine norm_ (a' := ?_) ?_ ?_
                                rotate_left
                                · show Act.put _ (some 67) _ = _
                                  simp only [Act.put, List.setIfInBounds_toArray, List.set_cons_zero, List.set_cons_succ, i64_w, i32_w]
                                  rfl
                                refine one_ (i := 10) (N := some 68) #[true, true, true, true, true, true, true, true, true, true, true, true, false] rfl rfl (one_of HT_.out (by kernel_rfl)) (by decide) (fun K hK => ?_)
                                refine ge Try.func19 #[.agg #[.int .u64 x601000_2, .int .u64 x601001_2], .agg #[.int .u64 t603, .int .u64 t604]] ?_
                                with_reducible refine (sat_Wide_Plus.calls x601000_2 x601001_2 t603 t604 t605 t606 _ A32.out).mono ?_
                                rintro e w41 ⟨rfl, hb⟩
                                refine ⟨_, rfl, ?_⟩
                                have n0_ := bb BK594 hb
                                have n1_ := bb BK600 hb
                                have n2_ := bb BK607 hb
                                have n3_ := bs HB hb
                                clear BK594
                                clear BK600
                                clear BK607
                                clear HB
                                have BK594 := n0_
                                have BK600 := n1_
                                have BK607 := n2_
                                have HB := n3_
                                clear n0_ n1_ n2_ n3_
                                (try clear hb)
                                (try clear hb2)
                                (try clear hk)
                                (try clear hi)
                                refine hK.out _ _ ⟨(blk_cell BK600.out 0).trans rfl, (blk_cell BK600.out 1).trans rfl, (blk_cell BK594.out 0).trans rfl, (blk_cell BK594.out 1).trans rfl, (blk_cell BK594.out 2).trans rfl, (blk_cell BK594.out 3).trans rfl, (blk_cell BK594.out 4).trans rfl, ((HB.out.cell (World.block_lt_of_cell? w _ hw602_0)).trans hw602_0), ((HB.out.cell (World.block_lt_of_cell? w _ hw602_1)).trans hw602_1)⟩ (fun hHeld => ?_)
                                clear hK K
                                refine norm_ (a' := ?_) ?_ ?_
                                rotate_left
                                · show Act.put _ (some 68) _ = _
                                  simp only [Act.put, List.setIfInBounds_toArray, List.set_cons_zero, List.set_cons_succ, i64_w, i32_w]
                                  rfl
                                exact norm_ (by simp only [putAll, Act.put, List.setIfInBounds_toArray, List.set_cons_zero, List.set_cons_succ]) (hCont (gb607) _ ⟨hHeld, (bk BK594), (bk BK600), (bk BK607), GW607.out, GE607.out, NB594_607.out, NB607_594.out, NB600_607.out, NB607_600.out, (bw HB)⟩)
                            rintro gb607 w42 ⟨hS_, h0_, h1_, h2_, h3_, h4_, h5_, h6_, h7_, h8_, h9_⟩
                            have n0_ : Aside0 (w42.heap[gb594]? = some (.cells #[.int .i64 a0_0, .int .u64 a0_1, .int .u64 a0_2, .int .u64 a0_3, .int .u64 a0_4] 24 (0, 0))) := ⟨h0_⟩
                            have n1_ : Aside0 (w42.heap[gb600]? = some (.cells #[.int .u64 x601000_2, .int .u64 x601001_2] 60 (0, 0))) := ⟨h1_⟩
                            have n2_ : Aside0 (w42.heap[gb607]? = some (.cells #[.int .u64 0, .int .u64 0] 60 (0, 0))) := ⟨h2_⟩
                            have n3_ : Aside0 (w.heap.size ≤ gb607) := ⟨h3_⟩
                            have n4_ : Aside0 (w.heap.size ≤ gb607) := ⟨h4_⟩
                            have n5_ : Aside0 (gb594 ≠ gb607) := ⟨h5_⟩
                            have n6_ : Aside0 (gb607 ≠ gb594) := ⟨h6_⟩
                            have n7_ : Aside0 (gb600 ≠ gb607) := ⟨h7_⟩
                            have n8_ : Aside0 (gb607 ≠ gb600) := ⟨h8_⟩
                            have n9_ : Aside0 (Below w.heap.size w w42) := ⟨h9_⟩
                            clear BK594
                            clear BK600
                            clear HB
                            clear h0_ h1_ h2_ h3_ h4_ h5_ h6_ h7_ h8_ h9_
                            have BK594 := n0_
                            have BK600 := n1_
                            have BK607 := n2_
                            have GW607 := n3_
                            have GE607 := n4_
                            have NB594_607 := n5_
                            have NB607_594 := n6_
                            have NB600_607 := n7_
                            have NB607_600 := n8_
                            have HB := n9_
                            clear n0_ n1_ n2_ n3_ n4_ n5_ n6_ n7_ n8_ n9_
                            have hHeld : w42.cell? ⟨gb600, 0, none⟩ = some (.int .u64 x601000_2) ∧ w42.cell? ⟨gb600, 1, none⟩ = some (.int .u64 x601001_2) ∧ w42.cell? ⟨gb594, 0, none⟩ = some (.int .i64 a0_0) ∧ w42.cell? ⟨gb594, 1, none⟩ = some (.int .u64 a0_1) ∧ w42.cell? ⟨gb594, 2, none⟩ = some (.int .u64 a0_2) ∧ w42.cell? ⟨gb594, 3, none⟩ = some (.int .u64 a0_3) ∧ w42.cell? ⟨gb594, 4, none⟩ = some (.int .u64 a0_4) ∧ w42.cell? (ad597.add ((x9_2).toNat * 2)) = some (.int .u64 ((rd_T31 l1 x9_2).f0)) ∧ w42.cell? ⟨(ad597.add ((x9_2).toNat * 2)).block, (ad597.add ((x9_2).toNat * 2)).off + 1, none⟩ = some (.int .u64 ((rd_T31 l1 x9_2).f1)) := hS_
                            refine norm_ (a' := ?_) ?_ ?_
                            rotate_left
                            · simp only [putAll, Act.put, List.setIfInBounds_toArray, List.set_cons_zero, List.set_cons_succ]
                              rfl
                            refine one_ (i := 12) (N := none) #[true, true, true, true, true, true, true, true, true, true, true, true, true] rfl rfl (one_of HT_.out (by kernel_rfl)) (by decide) (fun K hK => ?_)
                            have hs43 : w42.cell? ⟨gb607, 0, none⟩ = some (.int .u64 0) := (blk_cell BK607.out 0).trans rfl
                            have hfs43 := blk_frozen BK607.out 0
                            have hns43_0 := NB594_607.out
                            have hns43_1 := NB600_607.out
                            have hms43_0 := NB607_594.out
                            have hms43_1 := NB607_600.out
                            have hs44 : w42.cell? ⟨gb607, 1, none⟩ = some (.int .u64 0) := (blk_cell BK607.out 1).trans rfl
                            have hfs44 := blk_frozen BK607.out 1
                            have hns44_0 := NB594_607.out
                            have hns44_1 := NB600_607.out
                            have hms44_0 := NB607_594.out
                            have hms44_1 := NB607_600.out
                            refine skip_ (w1 := ?_) (by rfl) rfl ?_ ?_
                            rotate_left
                            · go_simp
                              rfl
                            refine hK.out _ _ ⟨((cell_far (p := ⟨gb607, _, none⟩) NB600_607.out _).trans (((cell_far (p := ⟨gb607, _, none⟩) NB600_607.out _).trans (hHeld.1)))), ((cell_far (p := ⟨gb607, _, none⟩) NB600_607.out _).trans (((cell_far (p := ⟨gb607, _, none⟩) NB600_607.out _).trans (hHeld.2.1)))), ((cell_far (p := ⟨gb607, _, none⟩) NB594_607.out _).trans (((cell_far (p := ⟨gb607, _, none⟩) NB594_607.out _).trans (hHeld.2.2.1)))), ((cell_far (p := ⟨gb607, _, none⟩) NB594_607.out _).trans (((cell_far (p := ⟨gb607, _, none⟩) NB594_607.out _).trans (hHeld.2.2.2.1)))), ((cell_far (p := ⟨gb607, _, none⟩) NB594_607.out _).trans (((cell_far (p := ⟨gb607, _, none⟩) NB594_607.out _).trans (hHeld.2.2.2.2.1)))), ((cell_far (p := ⟨gb607, _, none⟩) NB594_607.out _).trans (((cell_far (p := ⟨gb607, _, none⟩) NB594_607.out _).trans (hHeld.2.2.2.2.2.1)))), ((cell_far (p := ⟨gb607, _, none⟩) NB594_607.out _).trans (((cell_far (p := ⟨gb607, _, none⟩) NB594_607.out _).trans (hHeld.2.2.2.2.2.2.1)))), ((cell_far (p := ⟨gb607, _, none⟩) (by first | exact Nat.ne_of_lt (Nat.lt_of_lt_of_le (by have := World.block_lt_of_cell? _ _ hw602_0; first | rwa [add_block] at this | exact this) GW607.out) | (rw [add_block]; exact Nat.ne_of_lt (Nat.lt_of_lt_of_le (by have := World.block_lt_of_cell? _ _ hw602_0; first | rwa [add_block] at this | exact this) GW607.out)) | (show (Addr.add _ _).block ≠ _; rw [add_block]; exact Nat.ne_of_lt (Nat.lt_of_lt_of_le (by have := World.block_lt_of_cell? _ _ hw602_0; first | rwa [add_block] at this | exact this) GW607.out)) | (dsimp only; exact Nat.ne_of_lt (Nat.lt_of_lt_of_le (by have := World.block_lt_of_cell? _ _ hw602_0; first | rwa [add_block] at this | exact this) GW607.out))) _).trans (((cell_far (p := ⟨gb607, _, none⟩) (by first | exact Nat.ne_of_lt (Nat.lt_of_lt_of_le (by have := World.block_lt_of_cell? _ _ hw602_0; first | rwa [add_block] at this | exact this) GW607.out) | (rw [add_block]; exact Nat.ne_of_lt (Nat.lt_of_lt_of_le (by have := World.block_lt_of_cell? _ _ hw602_0; first | rwa [add_block] at this | exact this) GW607.out)) | (show (Addr.add _ _).block ≠ _; rw [add_block]; exact Nat.ne_of_lt (Nat.lt_of_lt_of_le (by have := World.block_lt_of_cell? _ _ hw602_0; first | rwa [add_block] at this | exact this) GW607.out)) | (dsimp only; exact Nat.ne_of_lt (Nat.lt_of_lt_of_le (by have := World.block_lt_of_cell? _ _ hw602_0; first | rwa [add_block] at this | exact this) GW607.out))) _).trans (hHeld.2.2.2.2.2.2.2.1)))), ((cell_far (p := ⟨gb607, _, none⟩) (by first | exact Nat.ne_of_lt (Nat.lt_of_lt_of_le (by have := World.block_lt_of_cell? _ _ hw602_1; first | rwa [add_block] at this | exact this) GW607.out) | (rw [add_block]; exact Nat.ne_of_lt (Nat.lt_of_lt_of_le (by have := World.block_lt_of_cell? _ _ hw602_1; first | rwa [add_block] at this | exact this) GW607.out)) | (show (Addr.add _ _).block ≠ _; rw [add_block]; exact Nat.ne_of_lt (Nat.lt_of_lt_of_le (by have := World.block_lt_of_cell? _ _ hw602_1; first | rwa [add_block] at this | exact this) GW607.out)) | (dsimp only; exact Nat.ne_of_lt (Nat.lt_of_lt_of_le (by have := World.block_lt_of_cell? _ _ hw602_1; first | rwa [add_block] at this | exact this) GW607.out))) _).trans (((cell_far (p := ⟨gb607, _, none⟩) (by first | exact Nat.ne_of_lt (Nat.lt_of_lt_of_le (by have := World.block_lt_of_cell? _ _ hw602_1; first | rwa [add_block] at this | exact this) GW607.out) | (rw [add_block]; exact Nat.ne_of_lt (Nat.lt_of_lt_of_le (by have := World.block_lt_of_cell? _ _ hw602_1; first | rwa [add_block] at this | exact this) GW607.out)) | (show (Addr.add _ _).block ≠ _; rw [add_block]; exact Nat.ne_of_lt (Nat.lt_of_lt_of_le (by have := World.block_lt_of_cell? _ _ hw602_1; first | rwa [add_block] at this | exact this) GW607.out)) | (dsimp only; exact Nat.ne_of_lt (Nat.lt_of_lt_of_le (by have := World.block_lt_of_cell? _ _ hw602_1; first | rwa [add_block] at this | exact this) GW607.out))) _).trans (hHeld.2.2.2.2.2.2.2.2))))⟩ (fun hHeld => ?_)
                            clear hK K
                            refine done_ (done_of HT_.out (by kernel_rfl)) ?_
                            try go_wp2
                            have n0_ : Aside0 (((w42.setCell ⟨gb607, 0, none⟩ (.int .u64 t605)).setCell ⟨gb607, 1, none⟩ (.int .u64 t606)).heap[gb594]? = some (.cells #[.int .i64 a0_0, .int .u64 a0_1, .int .u64 a0_2, .int .u64 a0_3, .int .u64 a0_4] 24 (0, 0))) := ⟨bk BK594⟩
                            have n1_ : Aside0 (((w42.setCell ⟨gb607, 0, none⟩ (.int .u64 t605)).setCell ⟨gb607, 1, none⟩ (.int .u64 t606)).heap[gb600]? = some (.cells #[.int .u64 x601000_2, .int .u64 x601001_2] 60 (0, 0))) := ⟨bk BK600⟩
                            have n2_ : Aside0 (((w42.setCell ⟨gb607, 0, none⟩ (.int .u64 t605)).setCell ⟨gb607, 1, none⟩ (.int .u64 t606)).heap[gb607]? = some (.cells #[.int .u64 t605, .int .u64 t606] 60 (0, 0))) := ⟨bk BK607⟩
                            have n3_ : Aside0 (Below w.heap.size w ((w42.setCell ⟨gb607, 0, none⟩ (.int .u64 t605)).setCell ⟨gb607, 1, none⟩ (.int .u64 t606))) := ⟨bw HB⟩
                            (try clear BK594)
                            (try clear BK600)
                            (try clear BK607)
                            (try clear HB)
                            generalize ((w42.setCell ⟨gb607, 0, none⟩ (.int .u64 t605)).setCell ⟨gb607, 1, none⟩ (.int .u64 t606)) = w45 at n0_ n1_ n2_ n3_ ⊢
                            have BK594 := n0_
                            have BK600 := n1_
                            have BK607 := n2_
                            have HB := n3_
                            clear n0_ n1_ n2_ n3_
                            have n0_ := Aside0.mk (blk_drew BK594.out)
                            have n1_ := Aside0.mk (blk_drew BK600.out)
                            have n2_ := Aside0.mk (blk_drew BK607.out)
                            have n3_ := Aside0.mk (below_drew1 HB.out)
                            clear BK594
                            clear BK600
                            clear BK607
                            clear HB
                            have BK594 := n0_
                            have BK600 := n1_
                            have BK607 := n2_
                            have HB := n3_
                            clear n0_ n1_ n2_ n3_
                            have p608 : 0 ≤ (x9_2 : Int) := of_decide_eq_true (by first | (with_reducible assumption) | assumption)
                            have q608 : x9_2 < (l1.length : Int) := of_decide_eq_true (by first | (with_reducible assumption) | assumption)
                            obtain ⟨ad608, e608, hx608_0, hx608_1⟩ := at_T31 HR1.out x9_2 p608 q608
                            have hw608_1 := hx608_1
                            have hw608_0 := hx608_0
                            obtain rfl : ad597 = ad608 := (by injection e608)
                            replace hx608_0 := (HB.out.cell (World.block_lt_of_cell? w _ hx608_0)).trans hx608_0
                            replace hx608_1 := (HB.out.cell (World.block_lt_of_cell? w _ hx608_1)).trans hx608_1
                            replace p608 := eq_true p608
                            replace q608 := eq_true q608
                            refine start_ (n := 13) (S := fun w' => w'.cell? ⟨gb607, 0, none⟩ = some (.int .u64 t605) ∧ w'.cell? ⟨gb607, 1, none⟩ = some (.int .u64 t606) ∧ w'.cell? ⟨gb594, 0, none⟩ = some (.int .i64 a0_0) ∧ w'.cell? ⟨gb594, 1, none⟩ = some (.int .u64 a0_1) ∧ w'.cell? ⟨gb594, 2, none⟩ = some (.int .u64 a0_2) ∧ w'.cell? ⟨gb594, 3, none⟩ = some (.int .u64 a0_3) ∧ w'.cell? ⟨gb594, 4, none⟩ = some (.int .u64 a0_4) ∧ w'.cell? (ad597.add ((x9_2).toNat * 2)) = some (.int .u64 ((rd_T31 l1 x9_2).f0)) ∧ w'.cell? ⟨(ad597.add ((x9_2).toNat * 2)).block, (ad597.add ((x9_2).toNat * 2)).off + 1, none⟩ = some (.int .u64 ((rd_T31 l1 x9_2).f1))) (ds := []) #[false, false, false, false, false, false, false, false, false, false, false, false, false] (by kernel_rfl) rfl rfl ⟨(blk_cell BK607.out 0).trans rfl, (blk_cell BK607.out 1).trans rfl, (blk_cell BK594.out 0).trans rfl, (blk_cell BK594.out 1).trans rfl, (blk_cell BK594.out 2).trans rfl, (blk_cell BK594.out 3).trans rfl, (blk_cell BK594.out 4).trans rfl, ((HB.out.cell (World.block_lt_of_cell? w _ hw608_0)).trans hw608_0), ((HB.out.cell (World.block_lt_of_cell? w _ hw608_1)).trans hw608_1)⟩ (fun hHeld => ?_); refine with_tabW turnstilelaw24_AuditTwo.tab13 turnstilelaw24_AuditTwo.bits13 (fun HT_ HW_ => ?_)
                            generalize w45.drew = w46 at BK594 BK600 BK607 HB hx608_0 hx608_1 hHeld ⊢
                            refine chain_ (fuel := 5) [(1, 0, some 70), (2, 0, some 71), (3, 0, some 72), (4, 0, some 73), (7, 0, some 76), (0, 1, some 69), (5, 1, some 74), (8, 1, some 77)] #[true, true, true, true, true, true, false, true, true, false, false, false, false] HT_.out HW_.out (by kernel_rfl) (fun _ _ _ _ _ h => h) (Or.inr hHeld) rfl ?_
                            (iterate 5 refine lkP ?_); (iterate 3 refine lkT ?_); refine .nil ?_
                            refine one_ (i := 6) (N := some 75) #[true, true, true, true, true, true, true, true, true, false, false, false, false] rfl rfl (one_of HT_.out (by kernel_rfl)) (by decide) (fun K hK => ?_)
                            refine ge Try.func18 #[.int .u64 ((rd_T31 l1 x9_2).f0)] ?_
                            with_reducible refine (sat_Of.calls ((rd_T31 l1 x9_2).f0) t609 t610 _ A33.out).mono ?_
                            rintro e w47 ⟨rfl, hb⟩
                            refine ⟨_, rfl, ?_⟩
                            have n0_ := bb BK594 hb
                            have n1_ := bb BK600 hb
                            have n2_ := bb BK607 hb
                            have n3_ := bs HB hb
                            clear BK594
                            clear BK600
                            clear BK607
                            clear HB
                            have BK594 := n0_
                            have BK600 := n1_
                            have BK607 := n2_
                            have HB := n3_
                            clear n0_ n1_ n2_ n3_
                            (try clear hb)
                            (try clear hb2)
                            (try clear hk)
                            (try clear hi)
                            refine hK.out _ _ ⟨(blk_cell BK607.out 0).trans rfl, (blk_cell BK607.out 1).trans rfl, (blk_cell BK594.out 0).trans rfl, (blk_cell BK594.out 1).trans rfl, (blk_cell BK594.out 2).trans rfl, (blk_cell BK594.out 3).trans rfl, (blk_cell BK594.out 4).trans rfl, ((HB.out.cell (World.block_lt_of_cell? w _ hw608_0)).trans hw608_0), ((HB.out.cell (World.block_lt_of_cell? w _ hw608_1)).trans hw608_1)⟩ (fun hHeld => ?_)
                            clear hK K
                            refine norm_ (a' := ?_) ?_ ?_
                            rotate_left
                            · show Act.put _ (some 75) _ = _
                              simp only [Act.put, List.setIfInBounds_toArray, List.set_cons_zero, List.set_cons_succ, i64_w, i32_w]
                              rfl
                            refine one_ (i := 9) (N := some 78) #[true, true, true, true, true, true, true, true, true, true, false, false, false] rfl rfl (one_of HT_.out (by kernel_rfl)) (by decide) (fun K hK => ?_)
                            refine ge Try.func18 #[.int .u64 a0_2] ?_
                            with_reducible refine (sat_Of.calls a0_2 t611 t612 _ A34.out).mono ?_
                            rintro e w48 ⟨rfl, hb⟩
                            refine ⟨_, rfl, ?_⟩
                            have n0_ := bb BK594 hb
                            have n1_ := bb BK600 hb
                            have n2_ := bb BK607 hb
                            have n3_ := bs HB hb
                            clear BK594
                            clear BK600
                            clear BK607
                            clear HB
                            have BK594 := n0_
                            have BK600 := n1_
                            have BK607 := n2_
                            have HB := n3_
                            clear n0_ n1_ n2_ n3_
                            (try clear hb)
                            (try clear hb2)
                            (try clear hk)
                            (try clear hi)
                            refine hK.out _ _ ⟨(blk_cell BK607.out 0).trans rfl, (blk_cell BK607.out 1).trans rfl, (blk_cell BK594.out 0).trans rfl, (blk_cell BK594.out 1).trans rfl, (blk_cell BK594.out 2).trans rfl, (blk_cell BK594.out 3).trans rfl, (blk_cell BK594.out 4).trans rfl, ((HB.out.cell (World.block_lt_of_cell? w _ hw608_0)).trans hw608_0), ((HB.out.cell (World.block_lt_of_cell? w _ hw608_1)).trans hw608_1)⟩ (fun hHeld => ?_)
                            clear hK K
                            refine norm_ (a' := ?_) ?_ ?_
                            rotate_left
                            · show Act.put _ (some 78) _ = _
                              simp only [Act.put, List.setIfInBounds_toArray, List.set_cons_zero, List.set_cons_succ, i64_w, i32_w]
                              rfl
                            refine one_ (i := 10) (N := some 79) #[true, true, true, true, true, true, true, true, true, true, true, false, false] rfl rfl (one_of HT_.out (by kernel_rfl)) (by decide) (fun K hK => ?_)
                            refine ge Try.func19 #[.agg #[.int .u64 t609, .int .u64 t610], .agg #[.int .u64 t611, .int .u64 t612]] ?_
                            with_reducible refine (sat_Wide_Plus.calls t609 t610 t611 t612 t613 t614 _ A35.out).mono ?_
                            rintro e w49 ⟨rfl, hb⟩
                            refine ⟨_, rfl, ?_⟩
                            have n0_ := bb BK594 hb
                            have n1_ := bb BK600 hb
                            have n2_ := bb BK607 hb
                            have n3_ := bs HB hb
                            clear BK594
                            clear BK600
                            clear BK607
                            clear HB
                            have BK594 := n0_
                            have BK600 := n1_
                            have BK607 := n2_
                            have HB := n3_
                            clear n0_ n1_ n2_ n3_
                            (try clear hb)
                            (try clear hb2)
                            (try clear hk)
                            (try clear hi)
                            refine hK.out _ _ ⟨(blk_cell BK607.out 0).trans rfl, (blk_cell BK607.out 1).trans rfl, (blk_cell BK594.out 0).trans rfl, (blk_cell BK594.out 1).trans rfl, (blk_cell BK594.out 2).trans rfl, (blk_cell BK594.out 3).trans rfl, (blk_cell BK594.out 4).trans rfl, ((HB.out.cell (World.block_lt_of_cell? w _ hw608_0)).trans hw608_0), ((HB.out.cell (World.block_lt_of_cell? w _ hw608_1)).trans hw608_1)⟩ (fun hHeld => ?_)
                            clear hK K
                            refine norm_ (a' := ?_) ?_ ?_
                            rotate_left
                            · show Act.put _ (some 79) _ = _
                              simp only [Act.put, List.setIfInBounds_toArray, List.set_cons_zero, List.set_cons_succ, i64_w, i32_w]
                              rfl
                            refine one_ (i := 11) (N := some 80) #[true, true, true, true, true, true, true, true, true, true, true, true, false] rfl rfl (one_of HT_.out (by kernel_rfl)) (by decide) (fun K hK => ?_)
                            refine ge Try.func21 #[.agg #[.int .u64 t605, .int .u64 t606], .agg #[.int .u64 t613, .int .u64 t614]] ?_
                            with_reducible refine (sat_Wide_Cmp.calls t605 t606 t613 t614 t615 _ A36.out).mono ?_
                            rintro e w50 ⟨rfl, hb⟩
                            refine ⟨_, rfl, ?_⟩
                            have n0_ := bb BK594 hb
                            have n1_ := bb BK600 hb
                            have n2_ := bb BK607 hb
                            have n3_ := bs HB hb
                            clear BK594
                            clear BK600
                            clear BK607
                            clear HB
                            have BK594 := n0_
                            have BK600 := n1_
                            have BK607 := n2_
                            have HB := n3_
                            clear n0_ n1_ n2_ n3_
                            (try clear hb)
                            (try clear hb2)
                            (try clear hk)
                            (try clear hi)
                            refine hK.out _ _ ⟨(blk_cell BK607.out 0).trans rfl, (blk_cell BK607.out 1).trans rfl, (blk_cell BK594.out 0).trans rfl, (blk_cell BK594.out 1).trans rfl, (blk_cell BK594.out 2).trans rfl, (blk_cell BK594.out 3).trans rfl, (blk_cell BK594.out 4).trans rfl, ((HB.out.cell (World.block_lt_of_cell? w _ hw608_0)).trans hw608_0), ((HB.out.cell (World.block_lt_of_cell? w _ hw608_1)).trans hw608_1)⟩ (fun hHeld => ?_)
                            clear hK K
                            refine norm_ (a' := ?_) ?_ ?_
                            rotate_left
                            · show Act.put _ (some 80) _ = _
                              simp only [Act.put, List.setIfInBounds_toArray, List.set_cons_zero, List.set_cons_succ, i64_w, i32_w]
                              rfl
                            refine chain_ (fuel := 0) [(12, 0, some 81)] #[true, true, true, true, true, true, true, true, true, true, true, true, true] HT_.out HW_.out (by kernel_rfl) (fun _ _ _ _ _ h => h) (Or.inl (by decide)) rfl ?_
                            refine lkP ?_; refine .nil ?_
                            refine done_ (done_of HT_.out (by kernel_rfl)) ?_
                            try go_wp2
                            go_ret
                            exact ⟨by first | rfl | (simp [errW_none, errW_some] <;> rfl) | (simp only [← hji20]; first | rfl | (simp [errW_none, errW_some] <;> rfl)) | (simp [*, errW_none, errW_some] <;> rfl), bw HB⟩
                          · rw [if_neg c37] at H
                            have c37b0 : decide (0 < t615) = false := decide_eq_false c37
                            clear c37
                            replace H := Option.bind_eq_some_iff.mp H
                            obtain ⟨⟨t616, t617⟩, A510, H⟩ := H
                            replace H : ((sat_Wide_Plus.f t605 t606 t616 t617).bind fun bt618 => (turnstilelaw24_AuditTwo.l0 k2 l1 (wrap64 (x9_2 + 1)) a0_0 a0_1 a0_2 a0_3 a0_4 bt618.1 bt618.2)) = some r := H
                            have A51 := Aside0.mk A510
                            clear A510
                            replace H := Option.bind_eq_some_iff.mp H
                            obtain ⟨⟨t618, t619⟩, A520, H⟩ := H
                            replace H : (turnstilelaw24_AuditTwo.l0 k2 l1 (wrap64 (x9_2 + 1)) a0_0 a0_1 a0_2 a0_3 a0_4 t618 t619) = some r := H
                            have A52 := Aside0.mk A520
                            clear A520
                            have H' := Aside0.mk H
                            clear H
                            have p601 : 0 ≤ (x9_2 : Int) := of_decide_eq_true (by first | (with_reducible assumption) | assumption)
                            have q601 : x9_2 < (l1.length : Int) := of_decide_eq_true (by first | (with_reducible assumption) | assumption)
                            obtain ⟨ad601, e601, hx601_0, hx601_1⟩ := at_T31 HR1.out x9_2 p601 q601
                            obtain rfl : ad597 = ad601 := (by injection e601)
                            replace hx601_0 := (HB.out.cell (World.block_lt_of_cell? w _ hx601_0)).trans hx601_0
                            replace hx601_1 := (HB.out.cell (World.block_lt_of_cell? w _ hx601_1)).trans hx601_1
                            replace p601 := eq_true p601
                            replace q601 := eq_true q601
                            try go_wp2
                            have n0_ := Aside0.mk (blk_drew BK594.out)
                            have n1_ := Aside0.mk (blk_drew BK600.out)
                            have n2_ := Aside0.mk (below_drew1 HB.out)
                            clear BK594
                            clear BK600
                            clear HB
                            have BK594 := n0_
                            have BK600 := n1_
                            have HB := n2_
                            clear n0_ n1_ n2_
                            have p602 : 0 ≤ (x9_2 : Int) := of_decide_eq_true (by first | (with_reducible assumption) | assumption)
                            have q602 : x9_2 < (l1.length : Int) := of_decide_eq_true (by first | (with_reducible assumption) | assumption)
                            obtain ⟨ad602, e602, hx602_0, hx602_1⟩ := at_T31 HR1.out x9_2 p602 q602
                            have hw602_1 := hx602_1
                            have hw602_0 := hx602_0
                            obtain rfl : ad597 = ad602 := (by injection e602)
                            replace hx602_0 := (HB.out.cell (World.block_lt_of_cell? w _ hx602_0)).trans hx602_0
                            replace hx602_1 := (HB.out.cell (World.block_lt_of_cell? w _ hx602_1)).trans hx602_1
                            replace p602 := eq_true p602
                            replace q602 := eq_true q602
                            refine start_ (n := 13) (S := fun w' => w'.cell? ⟨gb600, 0, none⟩ = some (.int .u64 x601000_2) ∧ w'.cell? ⟨gb600, 1, none⟩ = some (.int .u64 x601001_2) ∧ w'.cell? ⟨gb594, 0, none⟩ = some (.int .i64 a0_0) ∧ w'.cell? ⟨gb594, 1, none⟩ = some (.int .u64 a0_1) ∧ w'.cell? ⟨gb594, 2, none⟩ = some (.int .u64 a0_2) ∧ w'.cell? ⟨gb594, 3, none⟩ = some (.int .u64 a0_3) ∧ w'.cell? ⟨gb594, 4, none⟩ = some (.int .u64 a0_4) ∧ w'.cell? (ad597.add ((x9_2).toNat * 2)) = some (.int .u64 ((rd_T31 l1 x9_2).f0)) ∧ w'.cell? ⟨(ad597.add ((x9_2).toNat * 2)).block, (ad597.add ((x9_2).toNat * 2)).off + 1, none⟩ = some (.int .u64 ((rd_T31 l1 x9_2).f1))) (ds := []) #[false, false, false, false, false, false, false, false, false, false, false, false, false] (by kernel_rfl) rfl rfl ⟨(blk_cell BK600.out 0).trans rfl, (blk_cell BK600.out 1).trans rfl, (blk_cell BK594.out 0).trans rfl, (blk_cell BK594.out 1).trans rfl, (blk_cell BK594.out 2).trans rfl, (blk_cell BK594.out 3).trans rfl, (blk_cell BK594.out 4).trans rfl, ((HB.out.cell (World.block_lt_of_cell? w _ hw602_0)).trans hw602_0), ((HB.out.cell (World.block_lt_of_cell? w _ hw602_1)).trans hw602_1)⟩ (fun hHeld => ?_); refine with_tabW turnstilelaw24_AuditTwo.tab12 turnstilelaw24_AuditTwo.bits12 (fun HT_ HW_ => ?_)
                            generalize wr.drew = w53 at BK594 BK600 HB hx602_0 hx602_1 hHeld ⊢
                            refine chain_ (fuel := 4) [(1, 0, some 59), (2, 0, some 60), (3, 0, some 61), (4, 0, some 62), (7, 0, some 65), (0, 1, some 58), (5, 1, some 63), (6, 0, some 64), (8, 1, some 66)] #[true, true, true, true, true, true, true, true, true, false, false, false, false] HT_.out HW_.out (by kernel_rfl) (fun _ _ _ _ _ h => h) (Or.inr hHeld) rfl ?_
                            (iterate 5 refine lkP ?_); (iterate 2 refine lkT ?_); refine lkP ?_; refine lkT ?_; refine .nil ?_
                            refine join_ (σ := Nat) 1 #[true, true, true, true, true, true, true, true, true, true, true, true, false] (fun s_ => [(67, .agg #[.int .u64 t603, .int .u64 t604]), (68, .agg #[.int .u64 t605, .int .u64 t606]), (10, .pointer (some ⟨s_, 0, none⟩))]) (fun s_ w' => (w'.cell? ⟨gb600, 0, none⟩ = some (.int .u64 x601000_2) ∧ w'.cell? ⟨gb600, 1, none⟩ = some (.int .u64 x601001_2) ∧ w'.cell? ⟨gb594, 0, none⟩ = some (.int .i64 a0_0) ∧ w'.cell? ⟨gb594, 1, none⟩ = some (.int .u64 a0_1) ∧ w'.cell? ⟨gb594, 2, none⟩ = some (.int .u64 a0_2) ∧ w'.cell? ⟨gb594, 3, none⟩ = some (.int .u64 a0_3) ∧ w'.cell? ⟨gb594, 4, none⟩ = some (.int .u64 a0_4) ∧ w'.cell? (ad597.add ((x9_2).toNat * 2)) = some (.int .u64 ((rd_T31 l1 x9_2).f0)) ∧ w'.cell? ⟨(ad597.add ((x9_2).toNat * 2)).block, (ad597.add ((x9_2).toNat * 2)).off + 1, none⟩ = some (.int .u64 ((rd_T31 l1 x9_2).f1))) ∧ (w'.heap[gb594]? = some (.cells #[.int .i64 a0_0, .int .u64 a0_1, .int .u64 a0_2, .int .u64 a0_3, .int .u64 a0_4] 24 (0, 0))) ∧ (w'.heap[gb600]? = some (.cells #[.int .u64 x601000_2, .int .u64 x601001_2] 60 (0, 0))) ∧ (w'.heap[s_]? = some (.cells #[.int .u64 0, .int .u64 0] 60 (0, 0))) ∧ (w.heap.size ≤ s_) ∧ (w.heap.size ≤ s_) ∧ (gb594 ≠ s_) ∧ (s_ ≠ gb594) ∧ (gb600 ≠ s_) ∧ (s_ ≠ gb600) ∧ (Below w.heap.size w w')) ?_ ?_
                            rotate_left
                            · intro hCont
                              refine two_ (i := 9) (j := 11) (Ni := some 67) (Nj := some 10) #[true, true, true, true, true, true, true, true, true, true, false, false, false] #[true, true, true, true, true, true, true, true, true, false, false, true, false] rfl rfl rfl rfl (two_of HT_.out (by kernel_rfl)) (by decide) (by decide) (fun K hK => ?_) (fun K hK => ?_)
                              · skip
                                refine ge Try.func20 #[.int .u64 (IntKind.u64.wrap (((rd_T31 l1 x9_2).f1) - 1)), .int .u64 a0_1] ?_
                                with_reducible refine (sat_Product.calls (IntKind.u64.wrap (((rd_T31 l1 x9_2).f1) - 1)) a0_1 t603 t604 _ A31.out).mono ?_
                                rintro e w54 ⟨rfl, hb⟩
                                refine ⟨_, rfl, ?_⟩
                                have n0_ := bb BK594 hb
                                have n1_ := bb BK600 hb
                                have n2_ := bs HB hb
                                clear BK594
                                clear BK600
                                clear HB
                                have BK594 := n0_
                                have BK600 := n1_
                                have HB := n2_
                                clear n0_ n1_ n2_
                                (try clear hb)
                                (try clear hb2)
                                (try clear hk)
                                (try clear hi)
                                refine hK.out _ _ ⟨(blk_cell BK600.out 0).trans rfl, (blk_cell BK600.out 1).trans rfl, (blk_cell BK594.out 0).trans rfl, (blk_cell BK594.out 1).trans rfl, (blk_cell BK594.out 2).trans rfl, (blk_cell BK594.out 3).trans rfl, (blk_cell BK594.out 4).trans rfl, ((HB.out.cell (World.block_lt_of_cell? w _ hw602_0)).trans hw602_0), ((HB.out.cell (World.block_lt_of_cell? w _ hw602_1)).trans hw602_1)⟩ (fun hHeld => ?_)
                                clear hK K
                                refine norm_ (a' := ?_) ?_ ?_
                                rotate_left
                                · show Act.put _ (some 67) _ = _
                                  simp only [Act.put, List.setIfInBounds_toArray, List.set_cons_zero, List.set_cons_succ, i64_w, i32_w]
                                  rfl
                                refine two_ (i := 10) (j := 11) (Ni := some 68) (Nj := some 10) #[true, true, true, true, true, true, true, true, true, true, true, false, false] #[true, true, true, true, true, true, true, true, true, true, false, true, false] rfl rfl rfl rfl (two_of HT_.out (by kernel_rfl)) (by decide) (by decide) (fun K hK => ?_) (fun K hK => ?_)
                                · skip
                                  refine ge Try.func19 #[.agg #[.int .u64 x601000_2, .int .u64 x601001_2], .agg #[.int .u64 t603, .int .u64 t604]] ?_
                                  with_reducible refine (sat_Wide_Plus.calls x601000_2 x601001_2 t603 t604 t605 t606 _ A32.out).mono ?_
                                  rintro e w55 ⟨rfl, hb⟩
                                  refine ⟨_, rfl, ?_⟩
                                  have n0_ := bb BK594 hb
                                  have n1_ := bb BK600 hb
                                  have n2_ := bs HB hb
                                  clear BK594
                                  clear BK600
                                  clear HB
                                  have BK594 := n0_
                                  have BK600 := n1_
                                  have HB := n2_
                                  clear n0_ n1_ n2_
                                  (try clear hb)
                                  (try clear hb2)
                                  (try clear hk)
                                  (try clear hi)
                                  refine hK.out _ _ ⟨(blk_cell BK600.out 0).trans rfl, (blk_cell BK600.out 1).trans rfl, (blk_cell BK594.out 0).trans rfl, (blk_cell BK594.out 1).trans rfl, (blk_cell BK594.out 2).trans rfl, (blk_cell BK594.out 3).trans rfl, (blk_cell BK594.out 4).trans rfl, ((HB.out.cell (World.block_lt_of_cell? w _ hw602_0)).trans hw602_0), ((HB.out.cell (World.block_lt_of_cell? w _ hw602_1)).trans hw602_1)⟩ (fun hHeld => ?_)
                                  clear hK K
                                  refine norm_ (a' := ?_) ?_ ?_
                                  rotate_left
                                  · show Act.put _ (some 68) _ = _
                                    simp only [Act.put, List.setIfInBounds_toArray, List.set_cons_zero, List.set_cons_succ, i64_w, i32_w]
                                    rfl
                                  refine one_ (i := 11) (N := some 10) #[true, true, true, true, true, true, true, true, true, true, true, true, false] rfl rfl (one_of HT_.out (by kernel_rfl)) (by decide) (fun K hK => ?_)
                                  refine box_step ?hg (N := 10) ?hd (cs := #[.int .u64 0, .int .u64 0]) (t := 60) ?hr ?_; (case hd => rfl); (case hg => rfl); (case hr => first | (go_simp; done) | (go_simp; rfl))
                                  intro gb607 hg w56 hbox hb
                                  have n0_ := bb BK594 hb
                                  have n1_ := bb BK600 hb
                                  have n2_ := bs HB hb
                                  have n3_ := Aside0.mk (hbox)
                                  have n4_ := sz HB hg
                                  have n5_ := sz HB hg
                                  have n6_ := nl BK594 hg
                                  have n7_ := nr BK594 hg
                                  have n8_ := nl BK600 hg
                                  have n9_ := nr BK600 hg
                                  clear BK594
                                  clear BK600
                                  clear HB
                                  have BK594 := n0_
                                  have BK600 := n1_
                                  have HB := n2_
                                  have BK607 := n3_
                                  have GW607 := n4_
                                  have GE607 := n5_
                                  have NB594_607 := n6_
                                  have NB607_594 := n7_
                                  have NB600_607 := n8_
                                  have NB607_600 := n9_
                                  clear n0_ n1_ n2_ n3_ n4_ n5_ n6_ n7_ n8_ n9_
                                  clear hb hbox hg
                                  refine hK.out _ _ ⟨(blk_cell BK600.out 0).trans rfl, (blk_cell BK600.out 1).trans rfl, (blk_cell BK594.out 0).trans rfl, (blk_cell BK594.out 1).trans rfl, (blk_cell BK594.out 2).trans rfl, (blk_cell BK594.out 3).trans rfl, (blk_cell BK594.out 4).trans rfl, ((HB.out.cell (World.block_lt_of_cell? w _ hw602_0)).trans hw602_0), ((HB.out.cell (World.block_lt_of_cell? w _ hw602_1)).trans hw602_1)⟩ (fun hHeld => ?_)
                                  clear hK K
                                  refine norm_ (a' := ?_) ?_ ?_
                                  rotate_left
                                  · show Act.put _ (some 10) _ = _
                                    simp only [Act.put, List.setIfInBounds_toArray, List.set_cons_zero, List.set_cons_succ, i64_w, i32_w]
                                    rfl
                                  exact norm_ (by simp only [putAll, Act.put, List.setIfInBounds_toArray, List.set_cons_zero, List.set_cons_succ]) (hCont (gb607) _ ⟨hHeld, (bk BK594), (bk BK600), (bk BK607), GW607.out, GE607.out, NB594_607.out, NB607_594.out, NB600_607.out, NB607_600.out, (bw HB)⟩)
                                · skip
                                  refine box_step ?hg (N := 10) ?hd (cs := #[.int .u64 0, .int .u64 0]) (t := 60) ?hr ?_; (case hd => rfl); (case hg => rfl); (case hr => first | (go_simp; done) | (go_simp; rfl))
                                  intro gb607 hg w55 hbox hb
                                  have n0_ := bb BK594 hb
                                  have n1_ := bb BK600 hb
                                  have n2_ := bs HB hb
                                  have n3_ := Aside0.mk (hbox)
                                  have n4_ := sz HB hg
                                  have n5_ := sz HB hg
                                  have n6_ := nl BK594 hg
                                  have n7_ := nr BK594 hg
                                  have n8_ := nl BK600 hg
                                  have n9_ := nr BK600 hg
                                  clear BK594
                                  clear BK600
                                  clear HB
                                  have BK594 := n0_
                                  have BK600 := n1_
                                  have HB := n2_
                                  have BK607 := n3_
                                  have GW607 := n4_
                                  have GE607 := n5_
                                  have NB594_607 := n6_
                                  have NB607_594 := n7_
                                  have NB600_607 := n8_
                                  have NB607_600 := n9_
                                  clear n0_ n1_ n2_ n3_ n4_ n5_ n6_ n7_ n8_ n9_
                                  clear hb hbox hg
                                  refine hK.out _ _ ⟨(blk_cell BK600.out 0).trans rfl, (blk_cell BK600.out 1).trans rfl, (blk_cell BK594.out 0).trans rfl, (blk_cell BK594.out 1).trans rfl, (blk_cell BK594.out 2).trans rfl, (blk_cell BK594.out 3).trans rfl, (blk_cell BK594.out 4).trans rfl, ((HB.out.cell (World.block_lt_of_cell? w _ hw602_0)).trans hw602_0), ((HB.out.cell (World.block_lt_of_cell? w _ hw602_1)).trans hw602_1)⟩ (fun hHeld => ?_)
                                  clear hK K
                                  refine norm_ (a' := ?_) ?_ ?_
                                  rotate_left
                                  · show Act.put _ (some 10) _ = _
                                    simp only [Act.put, List.setIfInBounds_toArray, List.set_cons_zero, List.set_cons_succ, i64_w, i32_w]
                                    rfl
                                  refine one_ (i := 10) (N := some 68) #[true, true, true, true, true, true, true, true, true, true, true, true, false] rfl rfl (one_of HT_.out (by kernel_rfl)) (by decide) (fun K hK => ?_)
                                  refine ge Try.func19 #[.agg #[.int .u64 x601000_2, .int .u64 x601001_2], .agg #[.int .u64 t603, .int .u64 t604]] ?_
                                  with_reducible refine (sat_Wide_Plus.calls x601000_2 x601001_2 t603 t604 t605 t606 _ A32.out).mono ?_
                                  rintro e w56 ⟨rfl, hb⟩
                                  refine ⟨_, rfl, ?_⟩
                                  have n0_ := bb BK594 hb
                                  have n1_ := bb BK600 hb
                                  have n2_ := bb BK607 hb
                                  have n3_ := bs HB hb
                                  clear BK594
                                  clear BK600
                                  clear BK607
                                  clear HB
                                  have BK594 := n0_
                                  have BK600 := n1_
                                  have BK607 := n2_
                                  have HB := n3_
                                  clear n0_ n1_ n2_ n3_
                                  (try clear hb)
                                  (try clear hb2)
                                  (try clear hk)
                                  (try clear hi)
                                  refine hK.out _ _ ⟨(blk_cell BK600.out 0).trans rfl, (blk_cell BK600.out 1).trans rfl, (blk_cell BK594.out 0).trans rfl, (blk_cell BK594.out 1).trans rfl, (blk_cell BK594.out 2).trans rfl, (blk_cell BK594.out 3).trans rfl, (blk_cell BK594.out 4).trans rfl, ((HB.out.cell (World.block_lt_of_cell? w _ hw602_0)).trans hw602_0), ((HB.out.cell (World.block_lt_of_cell? w _ hw602_1)).trans hw602_1)⟩ (fun hHeld => ?_)
                                  clear hK K
                                  refine norm_ (a' := ?_) ?_ ?_
                                  rotate_left
                                  · show Act.put _ (some 68) _ = _
                                    simp only [Act.put, List.setIfInBounds_toArray, List.set_cons_zero, List.set_cons_succ, i64_w, i32_w]
                                    rfl
                                  exact norm_ (by simp only [putAll, Act.put, List.setIfInBounds_toArray, List.set_cons_zero, List.set_cons_succ]) (hCont (gb607) _ ⟨hHeld, (bk BK594), (bk BK600), (bk BK607), GW607.out, GE607.out, NB594_607.out, NB607_594.out, NB600_607.out, NB607_600.out, (bw HB)⟩)
                              · skip
                                refine box_step ?hg (N := 10) ?hd (cs := #[.int .u64 0, .int .u64 0]) (t := 60) ?hr ?_; (case hd => rfl); (case hg => rfl); (case hr => first | (go_simp; done) | (go_simp; rfl))
                                intro gb607 hg w54 hbox hb
                                have n0_ := bb BK594 hb
                                have n1_ := bb BK600 hb
                                have n2_ := bs HB hb
                                have n3_ := Aside0.mk (hbox)
                                have n4_ := sz HB hg
                                have n5_ := sz HB hg
                                have n6_ := nl BK594 hg
                                have n7_ := nr BK594 hg
                                have n8_ := nl BK600 hg
                                have n9_ := nr BK600 hg
                                clear BK594
                                clear BK600
                                clear HB
                                have BK594 := n0_
                                have BK600 := n1_
                                have HB := n2_
                                have BK607 := n3_
                                have GW607 := n4_
                                have GE607 := n5_
                                have NB594_607 := n6_
                                have NB607_594 := n7_
                                have NB600_607 := n8_
                                have NB607_600 := n9_
                                clear n0_ n1_ n2_ n3_ n4_ n5_ n6_ n7_ n8_ n9_
                                clear hb hbox hg
                                refine hK.out _ _ ⟨(blk_cell BK600.out 0).trans rfl, (blk_cell BK600.out 1).trans rfl, (blk_cell BK594.out 0).trans rfl, (blk_cell BK594.out 1).trans rfl, (blk_cell BK594.out 2).trans rfl, (blk_cell BK594.out 3).trans rfl, (blk_cell BK594.out 4).trans rfl, ((HB.out.cell (World.block_lt_of_cell? w _ hw602_0)).trans hw602_0), ((HB.out.cell (World.block_lt_of_cell? w _ hw602_1)).trans hw602_1)⟩ (fun hHeld => ?_)
                                clear hK K
                                refine norm_ (a' := ?_) ?_ ?_
                                rotate_left
                                · show Act.put _ (some 10) _ = _
                                  simp only [Act.put, List.setIfInBounds_toArray, List.set_cons_zero, List.set_cons_succ, i64_w, i32_w]
                                  rfl
                                refine one_ (i := 9) (N := some 67) #[true, true, true, true, true, true, true, true, true, true, false, true, false] rfl rfl (one_of HT_.out (by kernel_rfl)) (by decide) (fun K hK => ?_)
                                refine ge Try.func20 #[.int .u64 (IntKind.u64.wrap (((rd_T31 l1 x9_2).f1) - 1)), .int .u64 a0_1] ?_
                                with_reducible refine (sat_Product.calls (IntKind.u64.wrap (((rd_T31 l1 x9_2).f1) - 1)) a0_1 t603 t604 _ A31.out).mono ?_
                                rintro e w55 ⟨rfl, hb⟩
                                refine ⟨_, rfl, ?_⟩
                                have n0_ := bb BK594 hb
                                have n1_ := bb BK600 hb
                                have n2_ := bb BK607 hb
                                have n3_ := bs HB hb
                                clear BK594
                                clear BK600
                                clear BK607
                                clear HB
                                have BK594 := n0_
                                have BK600 := n1_
                                have BK607 := n2_
                                have HB := n3_
                                clear n0_ n1_ n2_ n3_
                                (try clear hb)
                                (try clear hb2)
                                (try clear hk)
                                (try clear hi)
                                refine hK.out _ _ ⟨(blk_cell BK600.out 0).trans rfl, (blk_cell BK600.out 1).trans rfl, (blk_cell BK594.out 0).trans rfl, (blk_cell BK594.out 1).trans rfl, (blk_cell BK594.out 2).trans rfl, (blk_cell BK594.out 3).trans rfl, (blk_cell BK594.out 4).trans rfl, ((HB.out.cell (World.block_lt_of_cell? w _ hw602_0)).trans hw602_0), ((HB.out.cell (World.block_lt_of_cell? w _ hw602_1)).trans hw602_1)⟩ (fun hHeld => ?_)
                                clear hK K
                                refine norm_ (a' := ?_) ?_ ?_
                                rotate_left
                                · show Act.put _ (some 67) _ = _
                                  simp only [Act.put, List.setIfInBounds_toArray, List.set_cons_zero, List.set_cons_succ, i64_w, i32_w]
                                  rfl
                                refine one_ (i := 10) (N := some 68) #[true, true, true, true, true, true, true, true, true, true, true, true, false] rfl rfl (one_of HT_.out (by kernel_rfl)) (by decide) (fun K hK => ?_)
                                refine ge Try.func19 #[.agg #[.int .u64 x601000_2, .int .u64 x601001_2], .agg #[.int .u64 t603, .int .u64 t604]] ?_
                                with_reducible refine (sat_Wide_Plus.calls x601000_2 x601001_2 t603 t604 t605 t606 _ A32.out).mono ?_
                                rintro e w56 ⟨rfl, hb⟩
                                refine ⟨_, rfl, ?_⟩
                                have n0_ := bb BK594 hb
                                have n1_ := bb BK600 hb
                                have n2_ := bb BK607 hb
                                have n3_ := bs HB hb
                                clear BK594
                                clear BK600
                                clear BK607
                                clear HB
                                have BK594 := n0_
                                have BK600 := n1_
                                have BK607 := n2_
                                have HB := n3_
                                clear n0_ n1_ n2_ n3_
                                (try clear hb)
                                (try clear hb2)
                                (try clear hk)
                                (try clear hi)
                                refine hK.out _ _ ⟨(blk_cell BK600.out 0).trans rfl, (blk_cell BK600.out 1).trans rfl, (blk_cell BK594.out 0).trans rfl, (blk_cell BK594.out 1).trans rfl, (blk_cell BK594.out 2).trans rfl, (blk_cell BK594.out 3).trans rfl, (blk_cell BK594.out 4).trans rfl, ((HB.out.cell (World.block_lt_of_cell? w _ hw602_0)).trans hw602_0), ((HB.out.cell (World.block_lt_of_cell? w _ hw602_1)).trans hw602_1)⟩ (fun hHeld => ?_)
                                clear hK K
                                refine norm_ (a' := ?_) ?_ ?_
                                rotate_left
                                · show Act.put _ (some 68) _ = _
                                  simp only [Act.put, List.setIfInBounds_toArray, List.set_cons_zero, List.set_cons_succ, i64_w, i32_w]
                                  rfl
                                exact norm_ (by simp only [putAll, Act.put, List.setIfInBounds_toArray, List.set_cons_zero, List.set_cons_succ]) (hCont (gb607) _ ⟨hHeld, (bk BK594), (bk BK600), (bk BK607), GW607.out, GE607.out, NB594_607.out, NB607_594.out, NB600_607.out, NB607_600.out, (bw HB)⟩)
                            rintro gb607 w57 ⟨hS_, h0_, h1_, h2_, h3_, h4_, h5_, h6_, h7_, h8_, h9_⟩
                            have n0_ : Aside0 (w57.heap[gb594]? = some (.cells #[.int .i64 a0_0, .int .u64 a0_1, .int .u64 a0_2, .int .u64 a0_3, .int .u64 a0_4] 24 (0, 0))) := ⟨h0_⟩
                            have n1_ : Aside0 (w57.heap[gb600]? = some (.cells #[.int .u64 x601000_2, .int .u64 x601001_2] 60 (0, 0))) := ⟨h1_⟩
                            have n2_ : Aside0 (w57.heap[gb607]? = some (.cells #[.int .u64 0, .int .u64 0] 60 (0, 0))) := ⟨h2_⟩
                            have n3_ : Aside0 (w.heap.size ≤ gb607) := ⟨h3_⟩
                            have n4_ : Aside0 (w.heap.size ≤ gb607) := ⟨h4_⟩
                            have n5_ : Aside0 (gb594 ≠ gb607) := ⟨h5_⟩
                            have n6_ : Aside0 (gb607 ≠ gb594) := ⟨h6_⟩
                            have n7_ : Aside0 (gb600 ≠ gb607) := ⟨h7_⟩
                            have n8_ : Aside0 (gb607 ≠ gb600) := ⟨h8_⟩
                            have n9_ : Aside0 (Below w.heap.size w w57) := ⟨h9_⟩
                            clear BK594
                            clear BK600
                            clear HB
                            clear h0_ h1_ h2_ h3_ h4_ h5_ h6_ h7_ h8_ h9_
                            have BK594 := n0_
                            have BK600 := n1_
                            have BK607 := n2_
                            have GW607 := n3_
                            have GE607 := n4_
                            have NB594_607 := n5_
                            have NB607_594 := n6_
                            have NB600_607 := n7_
                            have NB607_600 := n8_
                            have HB := n9_
                            clear n0_ n1_ n2_ n3_ n4_ n5_ n6_ n7_ n8_ n9_
                            have hHeld : w57.cell? ⟨gb600, 0, none⟩ = some (.int .u64 x601000_2) ∧ w57.cell? ⟨gb600, 1, none⟩ = some (.int .u64 x601001_2) ∧ w57.cell? ⟨gb594, 0, none⟩ = some (.int .i64 a0_0) ∧ w57.cell? ⟨gb594, 1, none⟩ = some (.int .u64 a0_1) ∧ w57.cell? ⟨gb594, 2, none⟩ = some (.int .u64 a0_2) ∧ w57.cell? ⟨gb594, 3, none⟩ = some (.int .u64 a0_3) ∧ w57.cell? ⟨gb594, 4, none⟩ = some (.int .u64 a0_4) ∧ w57.cell? (ad597.add ((x9_2).toNat * 2)) = some (.int .u64 ((rd_T31 l1 x9_2).f0)) ∧ w57.cell? ⟨(ad597.add ((x9_2).toNat * 2)).block, (ad597.add ((x9_2).toNat * 2)).off + 1, none⟩ = some (.int .u64 ((rd_T31 l1 x9_2).f1)) := hS_
                            refine norm_ (a' := ?_) ?_ ?_
                            rotate_left
                            · simp only [putAll, Act.put, List.setIfInBounds_toArray, List.set_cons_zero, List.set_cons_succ]
                              rfl
                            refine one_ (i := 12) (N := none) #[true, true, true, true, true, true, true, true, true, true, true, true, true] rfl rfl (one_of HT_.out (by kernel_rfl)) (by decide) (fun K hK => ?_)
                            have hs58 : w57.cell? ⟨gb607, 0, none⟩ = some (.int .u64 0) := (blk_cell BK607.out 0).trans rfl
                            have hfs58 := blk_frozen BK607.out 0
                            have hns58_0 := NB594_607.out
                            have hns58_1 := NB600_607.out
                            have hms58_0 := NB607_594.out
                            have hms58_1 := NB607_600.out
                            have hs59 : w57.cell? ⟨gb607, 1, none⟩ = some (.int .u64 0) := (blk_cell BK607.out 1).trans rfl
                            have hfs59 := blk_frozen BK607.out 1
                            have hns59_0 := NB594_607.out
                            have hns59_1 := NB600_607.out
                            have hms59_0 := NB607_594.out
                            have hms59_1 := NB607_600.out
                            refine skip_ (w1 := ?_) (by rfl) rfl ?_ ?_
                            rotate_left
                            · go_simp
                              rfl
                            refine hK.out _ _ ⟨((cell_far (p := ⟨gb607, _, none⟩) NB600_607.out _).trans (((cell_far (p := ⟨gb607, _, none⟩) NB600_607.out _).trans (hHeld.1)))), ((cell_far (p := ⟨gb607, _, none⟩) NB600_607.out _).trans (((cell_far (p := ⟨gb607, _, none⟩) NB600_607.out _).trans (hHeld.2.1)))), ((cell_far (p := ⟨gb607, _, none⟩) NB594_607.out _).trans (((cell_far (p := ⟨gb607, _, none⟩) NB594_607.out _).trans (hHeld.2.2.1)))), ((cell_far (p := ⟨gb607, _, none⟩) NB594_607.out _).trans (((cell_far (p := ⟨gb607, _, none⟩) NB594_607.out _).trans (hHeld.2.2.2.1)))), ((cell_far (p := ⟨gb607, _, none⟩) NB594_607.out _).trans (((cell_far (p := ⟨gb607, _, none⟩) NB594_607.out _).trans (hHeld.2.2.2.2.1)))), ((cell_far (p := ⟨gb607, _, none⟩) NB594_607.out _).trans (((cell_far (p := ⟨gb607, _, none⟩) NB594_607.out _).trans (hHeld.2.2.2.2.2.1)))), ((cell_far (p := ⟨gb607, _, none⟩) NB594_607.out _).trans (((cell_far (p := ⟨gb607, _, none⟩) NB594_607.out _).trans (hHeld.2.2.2.2.2.2.1)))), ((cell_far (p := ⟨gb607, _, none⟩) (by first | exact Nat.ne_of_lt (Nat.lt_of_lt_of_le (by have := World.block_lt_of_cell? _ _ hw602_0; first | rwa [add_block] at this | exact this) GW607.out) | (rw [add_block]; exact Nat.ne_of_lt (Nat.lt_of_lt_of_le (by have := World.block_lt_of_cell? _ _ hw602_0; first | rwa [add_block] at this | exact this) GW607.out)) | (show (Addr.add _ _).block ≠ _; rw [add_block]; exact Nat.ne_of_lt (Nat.lt_of_lt_of_le (by have := World.block_lt_of_cell? _ _ hw602_0; first | rwa [add_block] at this | exact this) GW607.out)) | (dsimp only; exact Nat.ne_of_lt (Nat.lt_of_lt_of_le (by have := World.block_lt_of_cell? _ _ hw602_0; first | rwa [add_block] at this | exact this) GW607.out))) _).trans (((cell_far (p := ⟨gb607, _, none⟩) (by first | exact Nat.ne_of_lt (Nat.lt_of_lt_of_le (by have := World.block_lt_of_cell? _ _ hw602_0; first | rwa [add_block] at this | exact this) GW607.out) | (rw [add_block]; exact Nat.ne_of_lt (Nat.lt_of_lt_of_le (by have := World.block_lt_of_cell? _ _ hw602_0; first | rwa [add_block] at this | exact this) GW607.out)) | (show (Addr.add _ _).block ≠ _; rw [add_block]; exact Nat.ne_of_lt (Nat.lt_of_lt_of_le (by have := World.block_lt_of_cell? _ _ hw602_0; first | rwa [add_block] at this | exact this) GW607.out)) | (dsimp only; exact Nat.ne_of_lt (Nat.lt_of_lt_of_le (by have := World.block_lt_of_cell? _ _ hw602_0; first | rwa [add_block] at this | exact this) GW607.out))) _).trans (hHeld.2.2.2.2.2.2.2.1)))), ((cell_far (p := ⟨gb607, _, none⟩) (by first | exact Nat.ne_of_lt (Nat.lt_of_lt_of_le (by have := World.block_lt_of_cell? _ _ hw602_1; first | rwa [add_block] at this | exact this) GW607.out) | (rw [add_block]; exact Nat.ne_of_lt (Nat.lt_of_lt_of_le (by have := World.block_lt_of_cell? _ _ hw602_1; first | rwa [add_block] at this | exact this) GW607.out)) | (show (Addr.add _ _).block ≠ _; rw [add_block]; exact Nat.ne_of_lt (Nat.lt_of_lt_of_le (by have := World.block_lt_of_cell? _ _ hw602_1; first | rwa [add_block] at this | exact this) GW607.out)) | (dsimp only; exact Nat.ne_of_lt (Nat.lt_of_lt_of_le (by have := World.block_lt_of_cell? _ _ hw602_1; first | rwa [add_block] at this | exact this) GW607.out))) _).trans (((cell_far (p := ⟨gb607, _, none⟩) (by first | exact Nat.ne_of_lt (Nat.lt_of_lt_of_le (by have := World.block_lt_of_cell? _ _ hw602_1; first | rwa [add_block] at this | exact this) GW607.out) | (rw [add_block]; exact Nat.ne_of_lt (Nat.lt_of_lt_of_le (by have := World.block_lt_of_cell? _ _ hw602_1; first | rwa [add_block] at this | exact this) GW607.out)) | (show (Addr.add _ _).block ≠ _; rw [add_block]; exact Nat.ne_of_lt (Nat.lt_of_lt_of_le (by have := World.block_lt_of_cell? _ _ hw602_1; first | rwa [add_block] at this | exact this) GW607.out)) | (dsimp only; exact Nat.ne_of_lt (Nat.lt_of_lt_of_le (by have := World.block_lt_of_cell? _ _ hw602_1; first | rwa [add_block] at this | exact this) GW607.out))) _).trans (hHeld.2.2.2.2.2.2.2.2))))⟩ (fun hHeld => ?_)
                            clear hK K
                            refine done_ (done_of HT_.out (by kernel_rfl)) ?_
                            try go_wp2
                            have n0_ : Aside0 (((w57.setCell ⟨gb607, 0, none⟩ (.int .u64 t605)).setCell ⟨gb607, 1, none⟩ (.int .u64 t606)).heap[gb594]? = some (.cells #[.int .i64 a0_0, .int .u64 a0_1, .int .u64 a0_2, .int .u64 a0_3, .int .u64 a0_4] 24 (0, 0))) := ⟨bk BK594⟩
                            have n1_ : Aside0 (((w57.setCell ⟨gb607, 0, none⟩ (.int .u64 t605)).setCell ⟨gb607, 1, none⟩ (.int .u64 t606)).heap[gb600]? = some (.cells #[.int .u64 x601000_2, .int .u64 x601001_2] 60 (0, 0))) := ⟨bk BK600⟩
                            have n2_ : Aside0 (((w57.setCell ⟨gb607, 0, none⟩ (.int .u64 t605)).setCell ⟨gb607, 1, none⟩ (.int .u64 t606)).heap[gb607]? = some (.cells #[.int .u64 t605, .int .u64 t606] 60 (0, 0))) := ⟨bk BK607⟩
                            have n3_ : Aside0 (Below w.heap.size w ((w57.setCell ⟨gb607, 0, none⟩ (.int .u64 t605)).setCell ⟨gb607, 1, none⟩ (.int .u64 t606))) := ⟨bw HB⟩
                            (try clear BK594)
                            (try clear BK600)
                            (try clear BK607)
                            (try clear HB)
                            generalize ((w57.setCell ⟨gb607, 0, none⟩ (.int .u64 t605)).setCell ⟨gb607, 1, none⟩ (.int .u64 t606)) = w60 at n0_ n1_ n2_ n3_ ⊢
                            have BK594 := n0_
                            have BK600 := n1_
                            have BK607 := n2_
                            have HB := n3_
                            clear n0_ n1_ n2_ n3_
                            have n0_ := Aside0.mk (blk_drew BK594.out)
                            have n1_ := Aside0.mk (blk_drew BK600.out)
                            have n2_ := Aside0.mk (blk_drew BK607.out)
                            have n3_ := Aside0.mk (below_drew1 HB.out)
                            clear BK594
                            clear BK600
                            clear BK607
                            clear HB
                            have BK594 := n0_
                            have BK600 := n1_
                            have BK607 := n2_
                            have HB := n3_
                            clear n0_ n1_ n2_ n3_
                            have p608 : 0 ≤ (x9_2 : Int) := of_decide_eq_true (by first | (with_reducible assumption) | assumption)
                            have q608 : x9_2 < (l1.length : Int) := of_decide_eq_true (by first | (with_reducible assumption) | assumption)
                            obtain ⟨ad608, e608, hx608_0, hx608_1⟩ := at_T31 HR1.out x9_2 p608 q608
                            have hw608_1 := hx608_1
                            have hw608_0 := hx608_0
                            obtain rfl : ad597 = ad608 := (by injection e608)
                            replace hx608_0 := (HB.out.cell (World.block_lt_of_cell? w _ hx608_0)).trans hx608_0
                            replace hx608_1 := (HB.out.cell (World.block_lt_of_cell? w _ hx608_1)).trans hx608_1
                            replace p608 := eq_true p608
                            replace q608 := eq_true q608
                            refine start_ (n := 13) (S := fun w' => w'.cell? ⟨gb607, 0, none⟩ = some (.int .u64 t605) ∧ w'.cell? ⟨gb607, 1, none⟩ = some (.int .u64 t606) ∧ w'.cell? ⟨gb594, 0, none⟩ = some (.int .i64 a0_0) ∧ w'.cell? ⟨gb594, 1, none⟩ = some (.int .u64 a0_1) ∧ w'.cell? ⟨gb594, 2, none⟩ = some (.int .u64 a0_2) ∧ w'.cell? ⟨gb594, 3, none⟩ = some (.int .u64 a0_3) ∧ w'.cell? ⟨gb594, 4, none⟩ = some (.int .u64 a0_4) ∧ w'.cell? (ad597.add ((x9_2).toNat * 2)) = some (.int .u64 ((rd_T31 l1 x9_2).f0)) ∧ w'.cell? ⟨(ad597.add ((x9_2).toNat * 2)).block, (ad597.add ((x9_2).toNat * 2)).off + 1, none⟩ = some (.int .u64 ((rd_T31 l1 x9_2).f1))) (ds := []) #[false, false, false, false, false, false, false, false, false, false, false, false, false] (by kernel_rfl) rfl rfl ⟨(blk_cell BK607.out 0).trans rfl, (blk_cell BK607.out 1).trans rfl, (blk_cell BK594.out 0).trans rfl, (blk_cell BK594.out 1).trans rfl, (blk_cell BK594.out 2).trans rfl, (blk_cell BK594.out 3).trans rfl, (blk_cell BK594.out 4).trans rfl, ((HB.out.cell (World.block_lt_of_cell? w _ hw608_0)).trans hw608_0), ((HB.out.cell (World.block_lt_of_cell? w _ hw608_1)).trans hw608_1)⟩ (fun hHeld => ?_); refine with_tabW turnstilelaw24_AuditTwo.tab13 turnstilelaw24_AuditTwo.bits13 (fun HT_ HW_ => ?_)
                            generalize w60.drew = w61 at BK594 BK600 BK607 HB hx608_0 hx608_1 hHeld ⊢
                            refine chain_ (fuel := 5) [(1, 0, some 70), (2, 0, some 71), (3, 0, some 72), (4, 0, some 73), (7, 0, some 76), (0, 1, some 69), (5, 1, some 74), (8, 1, some 77)] #[true, true, true, true, true, true, false, true, true, false, false, false, false] HT_.out HW_.out (by kernel_rfl) (fun _ _ _ _ _ h => h) (Or.inr hHeld) rfl ?_
                            (iterate 5 refine lkP ?_); (iterate 3 refine lkT ?_); refine .nil ?_
                            refine one_ (i := 6) (N := some 75) #[true, true, true, true, true, true, true, true, true, false, false, false, false] rfl rfl (one_of HT_.out (by kernel_rfl)) (by decide) (fun K hK => ?_)
                            refine ge Try.func18 #[.int .u64 ((rd_T31 l1 x9_2).f0)] ?_
                            with_reducible refine (sat_Of.calls ((rd_T31 l1 x9_2).f0) t609 t610 _ A33.out).mono ?_
                            rintro e w62 ⟨rfl, hb⟩
                            refine ⟨_, rfl, ?_⟩
                            have n0_ := bb BK594 hb
                            have n1_ := bb BK600 hb
                            have n2_ := bb BK607 hb
                            have n3_ := bs HB hb
                            clear BK594
                            clear BK600
                            clear BK607
                            clear HB
                            have BK594 := n0_
                            have BK600 := n1_
                            have BK607 := n2_
                            have HB := n3_
                            clear n0_ n1_ n2_ n3_
                            (try clear hb)
                            (try clear hb2)
                            (try clear hk)
                            (try clear hi)
                            refine hK.out _ _ ⟨(blk_cell BK607.out 0).trans rfl, (blk_cell BK607.out 1).trans rfl, (blk_cell BK594.out 0).trans rfl, (blk_cell BK594.out 1).trans rfl, (blk_cell BK594.out 2).trans rfl, (blk_cell BK594.out 3).trans rfl, (blk_cell BK594.out 4).trans rfl, ((HB.out.cell (World.block_lt_of_cell? w _ hw608_0)).trans hw608_0), ((HB.out.cell (World.block_lt_of_cell? w _ hw608_1)).trans hw608_1)⟩ (fun hHeld => ?_)
                            clear hK K
                            refine norm_ (a' := ?_) ?_ ?_
                            rotate_left
                            · show Act.put _ (some 75) _ = _
                              simp only [Act.put, List.setIfInBounds_toArray, List.set_cons_zero, List.set_cons_succ, i64_w, i32_w]
                              rfl
                            refine one_ (i := 9) (N := some 78) #[true, true, true, true, true, true, true, true, true, true, false, false, false] rfl rfl (one_of HT_.out (by kernel_rfl)) (by decide) (fun K hK => ?_)
                            refine ge Try.func18 #[.int .u64 a0_2] ?_
                            with_reducible refine (sat_Of.calls a0_2 t611 t612 _ A34.out).mono ?_
                            rintro e w63 ⟨rfl, hb⟩
                            refine ⟨_, rfl, ?_⟩
                            have n0_ := bb BK594 hb
                            have n1_ := bb BK600 hb
                            have n2_ := bb BK607 hb
                            have n3_ := bs HB hb
                            clear BK594
                            clear BK600
                            clear BK607
                            clear HB
                            have BK594 := n0_
                            have BK600 := n1_
                            have BK607 := n2_
                            have HB := n3_
                            clear n0_ n1_ n2_ n3_
                            (try clear hb)
                            (try clear hb2)
                            (try clear hk)
                            (try clear hi)
                            refine hK.out _ _ ⟨(blk_cell BK607.out 0).trans rfl, (blk_cell BK607.out 1).trans rfl, (blk_cell BK594.out 0).trans rfl, (blk_cell BK594.out 1).trans rfl, (blk_cell BK594.out 2).trans rfl, (blk_cell BK594.out 3).trans rfl, (blk_cell BK594.out 4).trans rfl, ((HB.out.cell (World.block_lt_of_cell? w _ hw608_0)).trans hw608_0), ((HB.out.cell (World.block_lt_of_cell? w _ hw608_1)).trans hw608_1)⟩ (fun hHeld => ?_)
                            clear hK K
                            refine norm_ (a' := ?_) ?_ ?_
                            rotate_left
                            · show Act.put _ (some 78) _ = _
                              simp only [Act.put, List.setIfInBounds_toArray, List.set_cons_zero, List.set_cons_succ, i64_w, i32_w]
                              rfl
                            refine one_ (i := 10) (N := some 79) #[true, true, true, true, true, true, true, true, true, true, true, false, false] rfl rfl (one_of HT_.out (by kernel_rfl)) (by decide) (fun K hK => ?_)
                            refine ge Try.func19 #[.agg #[.int .u64 t609, .int .u64 t610], .agg #[.int .u64 t611, .int .u64 t612]] ?_
                            with_reducible refine (sat_Wide_Plus.calls t609 t610 t611 t612 t613 t614 _ A35.out).mono ?_
                            rintro e w64 ⟨rfl, hb⟩
                            refine ⟨_, rfl, ?_⟩
                            have n0_ := bb BK594 hb
                            have n1_ := bb BK600 hb
                            have n2_ := bb BK607 hb
                            have n3_ := bs HB hb
                            clear BK594
                            clear BK600
                            clear BK607
                            clear HB
                            have BK594 := n0_
                            have BK600 := n1_
                            have BK607 := n2_
                            have HB := n3_
                            clear n0_ n1_ n2_ n3_
                            (try clear hb)
                            (try clear hb2)
                            (try clear hk)
                            (try clear hi)
                            refine hK.out _ _ ⟨(blk_cell BK607.out 0).trans rfl, (blk_cell BK607.out 1).trans rfl, (blk_cell BK594.out 0).trans rfl, (blk_cell BK594.out 1).trans rfl, (blk_cell BK594.out 2).trans rfl, (blk_cell BK594.out 3).trans rfl, (blk_cell BK594.out 4).trans rfl, ((HB.out.cell (World.block_lt_of_cell? w _ hw608_0)).trans hw608_0), ((HB.out.cell (World.block_lt_of_cell? w _ hw608_1)).trans hw608_1)⟩ (fun hHeld => ?_)
                            clear hK K
                            refine norm_ (a' := ?_) ?_ ?_
                            rotate_left
                            · show Act.put _ (some 79) _ = _
                              simp only [Act.put, List.setIfInBounds_toArray, List.set_cons_zero, List.set_cons_succ, i64_w, i32_w]
                              rfl
                            refine one_ (i := 11) (N := some 80) #[true, true, true, true, true, true, true, true, true, true, true, true, false] rfl rfl (one_of HT_.out (by kernel_rfl)) (by decide) (fun K hK => ?_)
                            refine ge Try.func21 #[.agg #[.int .u64 t605, .int .u64 t606], .agg #[.int .u64 t613, .int .u64 t614]] ?_
                            with_reducible refine (sat_Wide_Cmp.calls t605 t606 t613 t614 t615 _ A36.out).mono ?_
                            rintro e w65 ⟨rfl, hb⟩
                            refine ⟨_, rfl, ?_⟩
                            have n0_ := bb BK594 hb
                            have n1_ := bb BK600 hb
                            have n2_ := bb BK607 hb
                            have n3_ := bs HB hb
                            clear BK594
                            clear BK600
                            clear BK607
                            clear HB
                            have BK594 := n0_
                            have BK600 := n1_
                            have BK607 := n2_
                            have HB := n3_
                            clear n0_ n1_ n2_ n3_
                            (try clear hb)
                            (try clear hb2)
                            (try clear hk)
                            (try clear hi)
                            refine hK.out _ _ ⟨(blk_cell BK607.out 0).trans rfl, (blk_cell BK607.out 1).trans rfl, (blk_cell BK594.out 0).trans rfl, (blk_cell BK594.out 1).trans rfl, (blk_cell BK594.out 2).trans rfl, (blk_cell BK594.out 3).trans rfl, (blk_cell BK594.out 4).trans rfl, ((HB.out.cell (World.block_lt_of_cell? w _ hw608_0)).trans hw608_0), ((HB.out.cell (World.block_lt_of_cell? w _ hw608_1)).trans hw608_1)⟩ (fun hHeld => ?_)
                            clear hK K
                            refine norm_ (a' := ?_) ?_ ?_
                            rotate_left
                            · show Act.put _ (some 80) _ = _
                              simp only [Act.put, List.setIfInBounds_toArray, List.set_cons_zero, List.set_cons_succ, i64_w, i32_w]
                              rfl
                            refine chain_ (fuel := 0) [(12, 0, some 81)] #[true, true, true, true, true, true, true, true, true, true, true, true, true] HT_.out HW_.out (by kernel_rfl) (fun _ _ _ _ _ h => h) (Or.inl (by decide)) rfl ?_
                            refine lkP ?_; refine .nil ?_
                            refine done_ (done_of HT_.out (by kernel_rfl)) ?_
                            try go_wp2
                            have n0_ := Aside0.mk (blk_drew BK594.out)
                            have n1_ := Aside0.mk (blk_drew BK600.out)
                            have n2_ := Aside0.mk (blk_drew BK607.out)
                            have n3_ := Aside0.mk (below_drew1 HB.out)
                            clear BK594
                            clear BK600
                            clear BK607
                            clear HB
                            have BK594 := n0_
                            have BK600 := n1_
                            have BK607 := n2_
                            have HB := n3_
                            clear n0_ n1_ n2_ n3_
                            refine start_ (n := 6) (S := fun w' => w'.cell? ⟨gb607, 0, none⟩ = some (.int .u64 t605) ∧ w'.cell? ⟨gb607, 1, none⟩ = some (.int .u64 t606) ∧ w'.cell? ⟨gb594, 0, none⟩ = some (.int .i64 a0_0) ∧ w'.cell? ⟨gb594, 1, none⟩ = some (.int .u64 a0_1) ∧ w'.cell? ⟨gb594, 2, none⟩ = some (.int .u64 a0_2) ∧ w'.cell? ⟨gb594, 3, none⟩ = some (.int .u64 a0_3) ∧ w'.cell? ⟨gb594, 4, none⟩ = some (.int .u64 a0_4)) (ds := []) #[false, false, false, false, false, false] (by kernel_rfl) rfl rfl ⟨(blk_cell BK607.out 0).trans rfl, (blk_cell BK607.out 1).trans rfl, (blk_cell BK594.out 0).trans rfl, (blk_cell BK594.out 1).trans rfl, (blk_cell BK594.out 2).trans rfl, (blk_cell BK594.out 3).trans rfl, (blk_cell BK594.out 4).trans rfl⟩ (fun hHeld => ?_)
                            generalize w65.drew = w66 at BK594 BK600 BK607 HB hHeld ⊢
                            refine pure_ (i := 1) (N := some 83) (v := ?_) (a' := ?_) #[false, true, false, false, false, false] rfl rfl (by kernel_rfl) (fun _ _ _ h => h) (Or.inl ⟨by rfl, ?_⟩) ?_ ?_
                            rotate_left
                            · intro w'
                              go_simp
                              with_reducible rfl
                            rotate_left
                            · simp only [Act.put, List.setIfInBounds_toArray, List.set_cons_zero, List.set_cons_succ, i64_w, i32_w]
                              rfl
                            refine take_ (i := 0) (N := some 82) (v := ?_) (a' := ?_) #[true, true, false, false, false, false] rfl rfl (by kernel_rfl) (fun _ _ _ h => h) (Or.inl ⟨by rfl, ?_⟩) hHeld ?_ ?_
                            rotate_left
                            · rintro w' ⟨s0, s1, s2, s3, s4, s5, s6⟩
                              go_simp
                              with_reducible rfl
                            rotate_left
                            · simp only [Act.put, List.setIfInBounds_toArray, List.set_cons_zero, List.set_cons_succ, i64_w, i32_w]
                              rfl
                            refine take_ (i := 2) (N := some 84) (v := ?_) (a' := ?_) #[true, true, true, false, false, false] rfl rfl (by kernel_rfl) (fun _ _ _ h => h) (Or.inl ⟨by rfl, ?_⟩) hHeld ?_ ?_
                            rotate_left
                            · rintro w' ⟨s0, s1, s2, s3, s4, s5, s6⟩
                              go_simp
                              with_reducible rfl
                            rotate_left
                            · simp only [Act.put, List.setIfInBounds_toArray, List.set_cons_zero, List.set_cons_succ, i64_w, i32_w]
                              rfl
                            refine one_ (i := 3) (N := some 85) #[true, true, true, true, false, false] rfl rfl (by kernel_rfl) (by decide) (fun K hK => ?_)
                            refine ge Try.func18 #[.int .u64 a0_1] ?_
                            with_reducible refine (sat_Of.calls a0_1 t616 t617 _ A51.out).mono ?_
                            rintro e w67 ⟨rfl, hb⟩
                            refine ⟨_, rfl, ?_⟩
                            have n0_ := bb BK594 hb
                            have n1_ := bb BK600 hb
                            have n2_ := bb BK607 hb
                            have n3_ := bs HB hb
                            clear BK594
                            clear BK600
                            clear BK607
                            clear HB
                            have BK594 := n0_
                            have BK600 := n1_
                            have BK607 := n2_
                            have HB := n3_
                            clear n0_ n1_ n2_ n3_
                            (try clear hb)
                            (try clear hb2)
                            (try clear hk)
                            (try clear hi)
                            refine hK.out _ _ ⟨(blk_cell BK607.out 0).trans rfl, (blk_cell BK607.out 1).trans rfl, (blk_cell BK594.out 0).trans rfl, (blk_cell BK594.out 1).trans rfl, (blk_cell BK594.out 2).trans rfl, (blk_cell BK594.out 3).trans rfl, (blk_cell BK594.out 4).trans rfl⟩ (fun hHeld => ?_)
                            clear hK K
                            refine norm_ (a' := ?_) ?_ ?_
                            rotate_left
                            · show Act.put _ (some 85) _ = _
                              simp only [Act.put, List.setIfInBounds_toArray, List.set_cons_zero, List.set_cons_succ, i64_w, i32_w]
                              rfl
                            refine one_ (i := 4) (N := some 86) #[true, true, true, true, true, false] rfl rfl (by kernel_rfl) (by decide) (fun K hK => ?_)
                            refine ge Try.func19 #[.agg #[.int .u64 t605, .int .u64 t606], .agg #[.int .u64 t616, .int .u64 t617]] ?_
                            with_reducible refine (sat_Wide_Plus.calls t605 t606 t616 t617 t618 t619 _ A52.out).mono ?_
                            rintro e w68 ⟨rfl, hb⟩
                            refine ⟨_, rfl, ?_⟩
                            have n0_ := bb BK594 hb
                            have n1_ := bb BK600 hb
                            have n2_ := bb BK607 hb
                            have n3_ := bs HB hb
                            clear BK594
                            clear BK600
                            clear BK607
                            clear HB
                            have BK594 := n0_
                            have BK600 := n1_
                            have BK607 := n2_
                            have HB := n3_
                            clear n0_ n1_ n2_ n3_
                            (try clear hb)
                            (try clear hb2)
                            (try clear hk)
                            (try clear hi)
                            refine hK.out _ _ ⟨(blk_cell BK607.out 0).trans rfl, (blk_cell BK607.out 1).trans rfl, (blk_cell BK594.out 0).trans rfl, (blk_cell BK594.out 1).trans rfl, (blk_cell BK594.out 2).trans rfl, (blk_cell BK594.out 3).trans rfl, (blk_cell BK594.out 4).trans rfl⟩ (fun hHeld => ?_)
                            clear hK K
                            refine norm_ (a' := ?_) ?_ ?_
                            rotate_left
                            · show Act.put _ (some 86) _ = _
                              simp only [Act.put, List.setIfInBounds_toArray, List.set_cons_zero, List.set_cons_succ, i64_w, i32_w]
                              rfl
                            refine one_ (i := 5) (N := none) #[true, true, true, true, true, true] rfl rfl (by kernel_rfl) (by decide) (fun K hK => ?_)
                            have hs69 : w68.cell? ⟨gb600, 0, none⟩ = some (.int .u64 x601000_2) := (blk_cell BK600.out 0).trans rfl
                            have hfs69 := blk_frozen BK600.out 0
                            have hns69_0 := NB594_600.out
                            have hns69_2 := NB607_600.out
                            have hms69_0 := NB600_594.out
                            have hms69_2 := NB600_607.out
                            have hs70 : w68.cell? ⟨gb600, 1, none⟩ = some (.int .u64 x601001_2) := (blk_cell BK600.out 1).trans rfl
                            have hfs70 := blk_frozen BK600.out 1
                            have hns70_0 := NB594_600.out
                            have hns70_2 := NB607_600.out
                            have hms70_0 := NB600_594.out
                            have hms70_2 := NB600_607.out
                            refine skip_ (w1 := ?_) (by rfl) rfl ?_ ?_
                            rotate_left
                            · go_simp
                              rfl
                            refine hK.out _ _ ⟨((cell_far (p := ⟨gb600, _, none⟩) NB607_600.out _).trans (((cell_far (p := ⟨gb600, _, none⟩) NB607_600.out _).trans (hHeld.1)))), ((cell_far (p := ⟨gb600, _, none⟩) NB607_600.out _).trans (((cell_far (p := ⟨gb600, _, none⟩) NB607_600.out _).trans (hHeld.2.1)))), ((cell_far (p := ⟨gb600, _, none⟩) NB594_600.out _).trans (((cell_far (p := ⟨gb600, _, none⟩) NB594_600.out _).trans (hHeld.2.2.1)))), ((cell_far (p := ⟨gb600, _, none⟩) NB594_600.out _).trans (((cell_far (p := ⟨gb600, _, none⟩) NB594_600.out _).trans (hHeld.2.2.2.1)))), ((cell_far (p := ⟨gb600, _, none⟩) NB594_600.out _).trans (((cell_far (p := ⟨gb600, _, none⟩) NB594_600.out _).trans (hHeld.2.2.2.2.1)))), ((cell_far (p := ⟨gb600, _, none⟩) NB594_600.out _).trans (((cell_far (p := ⟨gb600, _, none⟩) NB594_600.out _).trans (hHeld.2.2.2.2.2.1)))), ((cell_far (p := ⟨gb600, _, none⟩) NB594_600.out _).trans (((cell_far (p := ⟨gb600, _, none⟩) NB594_600.out _).trans (hHeld.2.2.2.2.2.2))))⟩ (fun hHeld => ?_)
                            clear hK K
                            refine done_ (by kernel_rfl) ?_
                            try go_wp2
                            go_roundg k2
                            case measure => have := HJ5.out; have := HK2.out; omega
                            case rel => exact ⟨(wrap64 (x9_2 + 1)), (t618), (t619), rs, H', ⟨by have := HJ5.out; have := HK2.out; omega⟩, ⟨bk BK594⟩, ⟨bk BK600⟩, ⟨bw HB⟩⟩
                      · rw [if_neg c29] at H
                        exact absurd H (by simp)
                    · rw [if_neg c28] at H
                      have c28b0 : decide (x9_2 < (l1.length : Int)) = false := decide_eq_false c28
                      clear c28
                      obtain rfl := Option.some.inj H
                      go_wp2
                      go_ret
                      exact ⟨by first | rfl | (simp [errW_none, errW_some] <;> rfl) | (simp only [← hji20]; first | rfl | (simp [errW_none, errW_some] <;> rfl)) | (simp [*, errW_none, errW_some] <;> rfl), bw HB⟩
              · rw [if_neg c22] at H
                exact absurd H (by simp)
            · rw [if_neg c21] at H
              exact absurd H (by simp)
  · replace c5 := Bool.eq_false_iff.mpr c5
    subst c5
    have H1 : (some false) = some r := by rw [if_neg (show ¬ (false = true) by decide)] at H; exact H
    clear H
    have H := H1
    clear H1
    obtain rfl := Option.some.inj H
    go_enter Try.func6, Try.ntmps6
    go_wp2_with (first | ((with_reducible refine gate_dst (N := 3) rfl ?_); (try (refine gate_guard (by rfl) ?_; dsimp only)); refine bx 3 #[.int .i64 a0_0, .int .u64 a0_1, .int .u64 a0_2, .int .u64 a0_3, .int .u64 a0_4] 24 ?_; intro gb594 hg w71 hbox hb; have n0_ := bs HB hb; have n1_ := Aside0.mk (hbox); have n2_ := sz HB hg; have n3_ := sz HB hg; clear HB; have HB := n0_; have BK594 := n1_; have GW594 := n2_; have GE594 := n3_; clear n0_ n1_ n2_ n3_; clear hb hbox hg) | ((with_reducible refine gate_callee (f := 9) rfl ?_); refine gm (some 11) Try.func9 #[] (turnstilelaw24_awake.calls k  false _ A4.out) ?_; intro w72 hb; have n0_ := bb BK594 hb; have n1_ := bs HB hb; clear BK594; clear HB; have BK594 := n0_; have HB := n1_; clear n0_ n1_; (try clear hb); (try clear hb2); (try clear hk); (try clear hi)))
    go_ret
    exact ⟨re, bw HB⟩


end Go.Proofs.Ytdoifmefhofnnaa.D
