/- Written by the session's own program hyb.py: what functions of the program compute; Lean checks it. -/
import Derived.Test.YtdoifmefhofnnaaDx0
import Derived.Test.YtdoifmefhofnnaaDx3
import Derived.Test.YtdoifmefhofnnaaDx15
import Derived.Test.YtdoifmefhofnnaaDx22
import Derived.Test.YtdoifmefhofnnaaDx24
import Derived.Test.YtdoifmefhofnnaaDx25
import Derived.Test.YtdoifmefhofnnaaDx43
namespace Go.Proofs.Ytdoifmefhofnnaa.D
open Go.RowKit Go.Proofs.YtdoifmefhofnnaaW.PrintWords Go.Proofs.YtdoifmefhofnnaaW.PrintLast Go.Proofs.YtdoifmefhofnnaaW.PrintMore Go.Proofs.YtdoifmefhofnnaaW.PrintShort
attribute [local go_sem] run_Add64 run_Sub64
attribute [local go_sem] max2_int min2_int max_two min_two max_three min_three max_four min_four   -- for this text's walks alone
set_option linter.unusedVariables false
set_option linter.unusedSimpArgs false

attribute [local go_sem high] eqA40
/-! ### turnstilelaw24_AuditAdmits: function 8 -/
mutual
def turnstilelaw24_AuditAdmits.j0 : Nat → List (S71) → Bool → Int → Int → Int → Int → Int → Option (Bool)
  | 0, _, _, _, _, _, _, _ => none
  | k + 1, x1, x22, x635000, x635001, x635002, x635003, x635004 => if x22 = true then (some true) else (turnstilelaw24_AuditAdmits.l0 k x1 ([] : List (S31)) 0 x635000 x635001 x635002 x635003 x635004 0 0 0)
def turnstilelaw24_AuditAdmits.l0 : Nat → List (S71) → List (S31) → Int → Int → Int → Int → Int → Int → Int → Int → Int → Option (Bool)
  | 0, _, _, _, _, _, _, _, _, _, _, _ => none
  | k + 1, x1, x6, x7, x635000, x635001, x635002, x635003, x635004, x638000, x638001, x638002 => if x7 < (x1.length : Int) then (if 0 ≤ x7 then ((policy_Admit.f k x635000 x635001 x635002 x635003 x635004 x638000 x638001 x638002 ((rd_T71 x1 x7).f0) ((rd_T71 x1 x7).f1)).bind fun bt640 => (if bt640.2.2.2.1 = true then (if x6.length < 8796093022208 then (turnstilelaw24_AuditAdmits.l0 k x1 (x6 ++ [(⟨(rd_T71 x1 x7).f0, (rd_T71 x1 x7).f1⟩ : S31)]) (wrap64 (x7 + 1)) x635000 x635001 x635002 x635003 x635004 bt640.1 bt640.2.1 bt640.2.2.1) else (none)) else (turnstilelaw24_AuditAdmits.l0 k x1 x6 (wrap64 (x7 + 1)) x635000 x635001 x635002 x635003 x635004 x638000 x638001 x638002))) else (none)) else ((audit_Level.f k x635000 x635001 x635002 x635003 x635004 x6).bind fun bt651 => ((audit_Conforms.f k x635000 x635001 x635002 x635003 x635004 x6).bind fun t656 => (if t656 = true then (if bt651.2.2.2 = true then (some (bt651.1 == x638000 && (bt651.2.1 == x638001 && (bt651.2.2.1 == x638002)))) else (some false)) else (some false))))
end
def turnstilelaw24_AuditAdmits.f (k : Nat) (a0_0 : Int) (a0_1 : Int) (a0_2 : Int) (a0_3 : Int) (a0_4 : Int) (l1 : List (S71)) : Option (Bool) := (turnstilelaw24_awake.f k).bind fun t635 => (if t635 = true then (if (l1.length : Int) > 1048576 then (turnstilelaw24_AuditAdmits.j0 k l1 true a0_0 a0_1 a0_2 a0_3 a0_4) else ((policy_Valid.f a0_0 a0_1 a0_2 a0_3 a0_4).bind fun t636 => (turnstilelaw24_AuditAdmits.j0 k l1 (!t636) a0_0 a0_1 a0_2 a0_3 a0_4))) else (some false))
theorem turnstilelaw24_AuditAdmits.mono_l : ∀ k, (∀ y0 y1 y2 y3 y4 y5 y6, LeO (turnstilelaw24_AuditAdmits.j0 k y0 y1 y2 y3 y4 y5 y6) (turnstilelaw24_AuditAdmits.j0 (k + 1) y0 y1 y2 y3 y4 y5 y6)) ∧ (∀ y0 y1 y2 y3 y4 y5 y6 y7 y8 y9 y10, LeO (turnstilelaw24_AuditAdmits.l0 k y0 y1 y2 y3 y4 y5 y6 y7 y8 y9 y10) (turnstilelaw24_AuditAdmits.l0 (k + 1) y0 y1 y2 y3 y4 y5 y6 y7 y8 y9 y10))
  | 0 => ⟨fun _ _ _ _ _ _ _ r h => by simp [turnstilelaw24_AuditAdmits.j0] at h, fun _ _ _ _ _ _ _ _ _ _ _ r h => by simp [turnstilelaw24_AuditAdmits.l0] at h⟩
  | k + 1 => by
    obtain ⟨ih0, ih1⟩ := turnstilelaw24_AuditAdmits.mono_l k
    refine ⟨?_, ?_⟩
    · intro y0 y1 y2 y3 y4 y5 y6
      unfold turnstilelaw24_AuditAdmits.j0
      repeat' first
      | (with_reducible exact ih0 _ _ _ _ _ _ _)
      | (with_reducible exact ih1 _ _ _ _ _ _ _ _ _ _ _)
      | (with_reducible exact audit_Conforms.mono _ _ _ _ _ _ _)
      | (with_reducible exact audit_Level.mono _ _ _ _ _ _ _)
      | (with_reducible exact policy_Admit.mono _ _ _ _ _ _ _ _ _ _ _)
      | (with_reducible exact turnstilelaw24_awake.mono _)
      | (with_reducible exact LeO.refl _)
      | (with_reducible exact LeO.none _)
      | (with_reducible refine LeO.ite ?_ ?_)
      | (with_reducible refine LeO.bind ?_ (fun _ => ?_))
      | exact ih0 _ _ _ _ _ _ _
      | exact ih1 _ _ _ _ _ _ _ _ _ _ _
      | exact audit_Conforms.mono _ _ _ _ _ _ _
      | exact audit_Level.mono _ _ _ _ _ _ _
      | exact policy_Admit.mono _ _ _ _ _ _ _ _ _ _ _
      | exact turnstilelaw24_awake.mono _
      | exact LeO.none _
      | refine LeO.ite ?_ ?_
      | refine LeO.bind ?_ (fun _ => ?_)
    · intro y0 y1 y2 y3 y4 y5 y6 y7 y8 y9 y10
      unfold turnstilelaw24_AuditAdmits.l0
      repeat' first
      | (with_reducible exact ih0 _ _ _ _ _ _ _)
      | (with_reducible exact ih1 _ _ _ _ _ _ _ _ _ _ _)
      | (with_reducible exact audit_Conforms.mono _ _ _ _ _ _ _)
      | (with_reducible exact audit_Level.mono _ _ _ _ _ _ _)
      | (with_reducible exact policy_Admit.mono _ _ _ _ _ _ _ _ _ _ _)
      | (with_reducible exact turnstilelaw24_awake.mono _)
      | (with_reducible exact LeO.refl _)
      | (with_reducible exact LeO.none _)
      | (with_reducible refine LeO.ite ?_ ?_)
      | (with_reducible refine LeO.bind ?_ (fun _ => ?_))
      | exact ih0 _ _ _ _ _ _ _
      | exact ih1 _ _ _ _ _ _ _ _ _ _ _
      | exact audit_Conforms.mono _ _ _ _ _ _ _
      | exact audit_Level.mono _ _ _ _ _ _ _
      | exact policy_Admit.mono _ _ _ _ _ _ _ _ _ _ _
      | exact turnstilelaw24_awake.mono _
      | exact LeO.none _
      | refine LeO.ite ?_ ?_
      | refine LeO.bind ?_ (fun _ => ?_)
theorem turnstilelaw24_AuditAdmits.mono : ∀ a0 a1 a2 a3 a4 a5 k, LeO (turnstilelaw24_AuditAdmits.f k a0 a1 a2 a3 a4 a5) (turnstilelaw24_AuditAdmits.f (k + 1) a0 a1 a2 a3 a4 a5) := by
  intro a0 a1 a2 a3 a4 a5 k
  obtain ⟨ih0, ih1⟩ := turnstilelaw24_AuditAdmits.mono_l k
  unfold turnstilelaw24_AuditAdmits.f
  repeat' first
      | (with_reducible exact ih0 _ _ _ _ _ _ _)
      | (with_reducible exact ih1 _ _ _ _ _ _ _ _ _ _ _)
      | (with_reducible exact audit_Conforms.mono _ _ _ _ _ _ _)
      | (with_reducible exact audit_Level.mono _ _ _ _ _ _ _)
      | (with_reducible exact policy_Admit.mono _ _ _ _ _ _ _ _ _ _ _)
      | (with_reducible exact turnstilelaw24_awake.mono _)
      | (with_reducible exact LeO.refl _)
      | (with_reducible exact LeO.none _)
      | (with_reducible refine LeO.ite ?_ ?_)
      | (with_reducible refine LeO.bind ?_ (fun _ => ?_))
      | exact ih0 _ _ _ _ _ _ _
      | exact ih1 _ _ _ _ _ _ _ _ _ _ _
      | exact audit_Conforms.mono _ _ _ _ _ _ _
      | exact audit_Level.mono _ _ _ _ _ _ _
      | exact policy_Admit.mono _ _ _ _ _ _ _ _ _ _ _
      | exact turnstilelaw24_awake.mono _
      | exact LeO.none _
      | refine LeO.ite ?_ ?_
      | refine LeO.bind ?_ (fun _ => ?_)
def turnstilelaw24_AuditAdmits.T10 : Bool × List (List Nat × List Nat) := (true, [([], []), ([], []), ([], []), ([], []), ([2, 3], [2, 3]), ([4], [4]), ([5], [5]), ([], []), ([], []), ([7, 8], [7, 8]), ([9], [9]), ([10], [10]), ([0, 1, 6, 11], [0, 1, 6, 11]), ([12], [12]), ([13], [13]), ([13], [13]), ([13], [13]), ([], []), ([17, 14, 12, 0, 1, 2, 3, 4, 5, 6, 7, 8, 9, 10, 11, 12, 13, 14, 17], [14, 17]), ([15, 18, 0, 1, 2, 3, 4, 5, 6, 7, 8, 9, 10, 11, 12, 13, 14, 15, 17, 18], [15]), ([16, 19, 0, 1, 2, 3, 4, 5, 6, 7, 8, 9, 10, 11, 12, 13, 14, 15, 16, 17, 18, 19], [16])])
def turnstilelaw24_AuditAdmits.B10 : List Nat := [0, 0, 0, 0, 12, 28, 60, 0, 0, 384, 896, 1920, 4095, 8191, 16383, 16383, 16383, 0, 163839, 458751, 1048575]
theorem turnstilelaw24_AuditAdmits.tab10 : rtab .any (opsOf Try.f8 10) = turnstilelaw24_AuditAdmits.T10 := by kernel_rfl
theorem turnstilelaw24_AuditAdmits.bits10 : waitsOk turnstilelaw24_AuditAdmits.T10.2 turnstilelaw24_AuditAdmits.B10 = true := by kernel_rfl
def turnstilelaw24_AuditAdmits.T12 : Bool × List (List Nat × List Nat) := (true, [([], []), ([], []), ([], []), ([1, 2], [1, 2]), ([3], [3]), ([4], [4]), ([], []), ([], []), ([6, 7], [6, 7]), ([8], [8]), ([9], [9]), ([5, 10], [5, 10]), ([11], [11]), ([0, 12], [0, 12]), ([13, 13, 0, 1, 2, 3, 4, 5, 6, 7, 8, 9, 10, 11, 12, 13], [0, 13])])
def turnstilelaw24_AuditAdmits.B12 : List Nat := [0, 0, 0, 6, 14, 30, 0, 0, 192, 448, 960, 2046, 4094, 8191, 16383]
theorem turnstilelaw24_AuditAdmits.tab12 : rtab .any (opsOf Try.f8 12) = turnstilelaw24_AuditAdmits.T12 := by kernel_rfl
theorem turnstilelaw24_AuditAdmits.bits12 : waitsOk turnstilelaw24_AuditAdmits.T12.2 turnstilelaw24_AuditAdmits.B12 = true := by kernel_rfl
set_option maxHeartbeats 8000000 in
set_option maxRecDepth 100000 in
theorem turnstilelaw24_AuditAdmits.calls (k : Nat) (a0_0 : Int) (a0_1 : Int) (a0_2 : Int) (a0_3 : Int) (a0_4 : Int) (A1 : Option Addr) (c1 : Nat) (l1 : List (S71)) (r : Bool) (w : World) (hr1 : Kd.C k71 w A1 l1.length l1) (hc1 : l1.length ≤ c1) (h : turnstilelaw24_AuditAdmits.f k a0_0 a0_1 a0_2 a0_3 a0_4 l1 = some r) :
    Calls Try.prog 8 #[.agg #[.int .i64 a0_0, .int .u64 a0_1, .int .u64 a0_2, .int .u64 a0_3, .int .u64 a0_4], .slice A1 l1.length c1] w fun e w' => e = .returned (.bool r) ∧ Below w.heap.size w w' := by
  have hu24 := Try.underlying24
  have hu40 := Try.underlying40
  have hu31 := Try.underlying31
  have HR1 := Aside0.mk hr1
  have HC1 := Aside0.mk hc1
  clear hr1 hc1
  have HB := Aside0.mk (Below.refl w.heap.size w)
  have H : ((turnstilelaw24_awake.f k).bind fun t635 => (if t635 = true then (if (l1.length : Int) > 1048576 then (turnstilelaw24_AuditAdmits.j0 k l1 true a0_0 a0_1 a0_2 a0_3 a0_4) else ((policy_Valid.f a0_0 a0_1 a0_2 a0_3 a0_4).bind fun t636 => (turnstilelaw24_AuditAdmits.j0 k l1 (!t636) a0_0 a0_1 a0_2 a0_3 a0_4))) else (some false))) = some r := h
  clear h
  replace H := Option.bind_eq_some_iff.mp H
  obtain ⟨t635, A30, H⟩ := H
  replace H : (if t635 = true then (if (l1.length : Int) > 1048576 then (turnstilelaw24_AuditAdmits.j0 k l1 true a0_0 a0_1 a0_2 a0_3 a0_4) else ((policy_Valid.f a0_0 a0_1 a0_2 a0_3 a0_4).bind fun t636 => (turnstilelaw24_AuditAdmits.j0 k l1 (!t636) a0_0 a0_1 a0_2 a0_3 a0_4))) else (some false)) = some r := H
  have A3 := Aside0.mk A30
  clear A30
  by_cases c4 : t635 = true
  · subst c4
    have H1 : (if (l1.length : Int) > 1048576 then (turnstilelaw24_AuditAdmits.j0 k l1 true a0_0 a0_1 a0_2 a0_3 a0_4) else ((policy_Valid.f a0_0 a0_1 a0_2 a0_3 a0_4).bind fun t636 => (turnstilelaw24_AuditAdmits.j0 k l1 (!t636) a0_0 a0_1 a0_2 a0_3 a0_4))) = some r := by rw [if_pos rfl] at H; exact H
    clear H
    have H := H1
    clear H1
    have HC5 := Aside0.mk H
    clear H
    go_enter Try.func8, Try.ntmps8
    go_upto_region 3 with (first | ((with_reducible refine gate_dst (N := 2) rfl ?_); refine bx 2 #[.int .i64 a0_0, .int .u64 a0_1, .int .u64 a0_2, .int .u64 a0_3, .int .u64 a0_4] 24 ?_; intro gb634 hg w6 hbox hb; have n0_ := bs HB hb; have n1_ := Aside0.mk (hbox); have n2_ := sz HB hg; have n3_ := sz HB hg; clear HB; have HB := n0_; have BK634 := n1_; have GW634 := n2_; have GE634 := n3_; clear n0_ n1_ n2_ n3_; clear hb hbox hg) | ((with_reducible refine gate_callee (f := 9) rfl ?_); refine gm (some 13) Try.func9 #[] (turnstilelaw24_awake.calls k  true _ A3.out) ?_; intro w7 hb; have n0_ := bb BK634 hb; have n1_ := bs HB hb; clear BK634; clear HB; have BK634 := n0_; have HB := n1_; clear n0_ n1_; (try clear hb); (try clear hb2); (try clear hk); (try clear hi)))
    (try simp only [Act.put, List.setIfInBounds_toArray, List.set_cons_zero, List.set_cons_succ])
    go_cut [22] (fun v22 wc => ∃ (kq : Nat) (x22_4 : Bool), v22 = .bool x22_4 ∧ Aside0 (turnstilelaw24_AuditAdmits.j0 kq l1 x22_4 a0_0 a0_1 a0_2 a0_3 a0_4 = some r) ∧ Aside0 (kq ≤ k) ∧ Aside0 (wc.heap[gb634]? = some (.cells #[.int .i64 a0_0, .int .u64 a0_1, .int .u64 a0_2, .int .u64 a0_3, .int .u64 a0_4] 24 (0, 0))) ∧ Aside0 (Below w.heap.size w wc))
    case first =>
      have H := HC5.out
      clear HC5
      by_cases c8 : (l1.length : Int) > 1048576
      · rw [if_pos c8] at H
        have c8b0 : decide (1048576 < (l1.length : Int)) = true := decide_eq_true c8
        have c8b1 : decide (1048576 < l1.length) = true := decide_eq_true (by omega)
        clear c8
        (first | rw [c8b0] | (simp only [i64_w, i32_w]; rw [c8b0]) | skip)
        have H' := Aside0.mk H
        clear H
        go_wp2
        go_meet
        case rel => exact ⟨_, (true), rs, H', ⟨by first | omega | exact Nat.le_refl _⟩, ⟨bk BK634⟩, ⟨bw HB⟩⟩
      · rw [if_neg c8] at H
        have c8b0 : decide (1048576 < (l1.length : Int)) = false := decide_eq_false c8
        have c8b1 : decide (1048576 < l1.length) = false := decide_eq_false (by omega)
        clear c8
        (first | rw [c8b0] | (simp only [i64_w, i32_w]; rw [c8b0]) | skip)
        replace H := Option.bind_eq_some_iff.mp H
        obtain ⟨t636, A90, H⟩ := H
        replace H : (turnstilelaw24_AuditAdmits.j0 k l1 (!t636) a0_0 a0_1 a0_2 a0_3 a0_4) = some r := H
        have A9 := Aside0.mk A90
        clear A90
        have H' := Aside0.mk H
        clear H
        obtain ⟨hcz10_0, hcz10_1, hcz10_2, hcz10_3, hcz10_4, hfz10_0, hfz10_1, hfz10_2, hfz10_3, hfz10_4⟩ := bc5 BK634
        go_wp2_with (first | (go_at_call 24; (with_reducible refine (policy_Valid.calls a0_0 a0_1 a0_2 a0_3 a0_4 t636 _ A9.out).mono ?_); rintro e w11 ⟨rfl, hb⟩; have n0_ := bb BK634 hb; have n1_ := bs HB hb; clear BK634; clear HB; have BK634 := n0_; have HB := n1_; clear n0_ n1_; (try clear hb); (try clear hb2); (try clear hk); (try clear hi)))
        go_meet
        case rel => exact ⟨_, (!t636), rs, H', ⟨by first | omega | exact Nat.le_refl _⟩, ⟨bk BK634⟩, ⟨bw HB⟩⟩
    case rest =>
      clear HC5
      try clear c1
      try clear p2
      try clear c4
      try clear c8
      try clear c8b0
      try clear c8b1
      try clear c9
      try clear hcz10_0
      try clear hcz10_1
      try clear hcz10_2
      try clear hcz10_3
      try clear hcz10_4
      try clear hfz10_0
      try clear hfz10_1
      try clear hfz10_2
      try clear hfz10_3
      try clear hfz10_4
      obtain ⟨kq, x22_4, rfl, HA, HJ4, BK634, HB⟩ := hcut
      cases kq with
      | zero => exact absurd HA.out (by simp [turnstilelaw24_AuditAdmits.j0])
      | succ kj4 =>
        have H := HA.out
        clear HA
        simp only [turnstilelaw24_AuditAdmits.j0] at H
        by_cases c12 : x22_4 = true
        · subst c12
          have H1 : (some true) = some r := by rw [if_pos rfl] at H; exact H
          clear H
          have H := H1
          clear H1
          obtain rfl := Option.some.inj H
          go_wp2
          go_ret
          exact ⟨re, bw HB⟩
        · replace c12 := Bool.eq_false_iff.mpr c12
          subst c12
          have H1 : (turnstilelaw24_AuditAdmits.l0 kj4 l1 ([] : List (S31)) 0 a0_0 a0_1 a0_2 a0_3 a0_4 0 0 0) = some r := by rw [if_neg (show ¬ (false = true) by decide)] at H; exact H
          clear H
          have H := H1
          clear H1
          have H' := Aside0.mk H
          clear H
          go_wp2_with (first | ((with_reducible refine gate_dst (N := 5) rfl ?_); refine bx 5 #[.int .u64 0, .int .u64 0, .int .u64 0] 40 ?_; intro gb637 hg w13 hbox hb; have n0_ := bb BK634 hb; have n1_ := bs HB hb; have n2_ := Aside0.mk (hbox); have n3_ := sz HB hg; have n4_ := sz HB hg; have n5_ := nl BK634 hg; have n6_ := nr BK634 hg; clear BK634; clear HB; have BK634 := n0_; have HB := n1_; have BK637 := n2_; have GW637 := n3_; have GE637 := n4_; have NB634_637 := n5_; have NB637_634 := n6_; clear n0_ n1_ n2_ n3_ n4_ n5_ n6_; clear hb hbox hg; have hnb14 := NB637_634.out; have hnc14 := NB634_637.out; obtain ⟨hcz15_0, hcz15_1, hcz15_2, hfz15_0, hfz15_1, hfz15_2⟩ := bc3 BK637))
          go_loopg [6, 7] kj4 (fun kq v6 v7 w' => ∃ (x6_2 : List (S31)) (x7_2 : Int) (x638000_2 : Int) (x638001_2 : Int) (x638002_2 : Int), v7 = .int .i64 x7_2 ∧ Aside0 (turnstilelaw24_AuditAdmits.l0 kq l1 x6_2 x7_2 a0_0 a0_1 a0_2 a0_3 a0_4 x638000_2 x638001_2 x638002_2 = some r) ∧ Aside0 (kq ≤ kj4) ∧ Aside0 (Kd.R k31 31 w' w.heap.size (fun _ => True) v6 x6_2) ∧ Aside0 (w'.heap[gb634]? = some (.cells #[.int .i64 a0_0, .int .u64 a0_1, .int .u64 a0_2, .int .u64 a0_3, .int .u64 a0_4] 24 (0, 0))) ∧ Aside0 (w'.heap[gb637]? = some (.cells #[.int .u64 x638000_2, .int .u64 x638001_2, .int .u64 x638002_2] 40 (0, 0))) ∧ Aside0 (Below w.heap.size w w'))
          case atStart => exact ⟨(([] : List (S31))), (0), (0), (0), (0), rs, H', ⟨Nat.le_refl _⟩, ⟨by first | exact Kd.R_nil _ _ _ _ _ | exact Kd.N_nil _ _ _ _ _ | exact Kd.V_nil _ _ _ _ _ | exact Kd.Q_nil _ _ _ _ _ | exact Kd.S_nil _ _ _ _ _⟩, ⟨bk BK634⟩, ⟨bk BK637⟩, ⟨bw HB⟩⟩
          case round =>
            clear H'
            try clear c1
            try clear p2
            try clear c4
            try clear c8
            try clear c8b0
            try clear c8b1
            try clear c9
            try clear c12
            try clear c14
            try clear hcz10_0
            try clear hcz10_1
            try clear hcz10_2
            try clear hcz10_3
            try clear hcz10_4
            try clear hcz15_0
            try clear hcz15_1
            try clear hcz15_2
            try clear hfz10_0
            try clear hfz10_1
            try clear hfz10_2
            try clear hfz10_3
            try clear hfz10_4
            try clear hfz15_0
            try clear hfz15_1
            try clear hfz15_2
            try clear p2
            obtain ⟨x6_2, x7_2, x638000_2, x638001_2, x638002_2, rfl, HA, HK2, HO_6, BK634, BK637, HB⟩ := hrel
            cases gk with
            | zero => exact absurd HA.out (by simp [turnstilelaw24_AuditAdmits.l0])
            | succ k2 =>
              have H := HA.out
              clear HA
              simp only [turnstilelaw24_AuditAdmits.l0] at H
              by_cases c16 : x7_2 < (l1.length : Int)
              · rw [if_pos c16] at H
                have c16b0 : decide (x7_2 < (l1.length : Int)) = true := decide_eq_true c16
                clear c16
                by_cases c17 : 0 ≤ x7_2
                · rw [if_pos c17] at H
                  have c17b0 : decide (0 ≤ x7_2) = true := decide_eq_true c17
                  clear c17
                  replace H := Option.bind_eq_some_iff.mp H
                  obtain ⟨⟨t640, t641, t642, t643, t644⟩, A180, H⟩ := H
                  replace H : (if t643 = true then (if x6_2.length < 8796093022208 then (turnstilelaw24_AuditAdmits.l0 k2 l1 (x6_2 ++ [(⟨(rd_T71 l1 x7_2).f0, (rd_T71 l1 x7_2).f1⟩ : S31)]) (wrap64 (x7_2 + 1)) a0_0 a0_1 a0_2 a0_3 a0_4 t640 t641 t642) else (none)) else (turnstilelaw24_AuditAdmits.l0 k2 l1 x6_2 (wrap64 (x7_2 + 1)) a0_0 a0_1 a0_2 a0_3 a0_4 x638000_2 x638001_2 x638002_2)) = some r := H
                  have A18 := Aside0.mk A180
                  clear A180
                  by_cases c19 : t643 = true
                  · subst c19
                    have H1 : (if x6_2.length < 8796093022208 then (turnstilelaw24_AuditAdmits.l0 k2 l1 (x6_2 ++ [(⟨(rd_T71 l1 x7_2).f0, (rd_T71 l1 x7_2).f1⟩ : S31)]) (wrap64 (x7_2 + 1)) a0_0 a0_1 a0_2 a0_3 a0_4 t640 t641 t642) else (none)) = some r := by rw [if_pos rfl] at H; exact H
                    clear H
                    have H := H1
                    clear H1
                    by_cases c20 : x6_2.length < 8796093022208
                    · rw [if_pos c20] at H
                      have LMc20 := Aside0.mk c20
                      clear c20
                      obtain ⟨y648, hy648⟩ : ∃ y_ : List (S31), y_ = (x6_2 ++ [(⟨(rd_T71 l1 x7_2).f0, (rd_T71 l1 x7_2).f1⟩ : S31)]) := ⟨_, rfl⟩
                      replace H : (turnstilelaw24_AuditAdmits.l0 k2 l1 y648 (wrap64 (x7_2 + 1)) a0_0 a0_1 a0_2 a0_3 a0_4 t640 t641 t642) = some r := by first | (rw [hy648]; with_reducible exact H) | (have H2_ := (Option.bind_some _ _).symm.trans H; rw [hy648]; with_reducible exact H2_) | (have H2_ := (Option.bind_some _ _).symm.trans H; with_reducible exact H2_) | with_reducible exact H | (rw [hy648]; exact H) | exact H
                      have Ny648 := Aside0.mk hy648
                      clear hy648
                      have H' := Aside0.mk H
                      clear H
                      try go_wp2
                      have n0_ := Aside0.mk (Kd.R_drew HO_6.out)
                      have n1_ := Aside0.mk (blk_drew BK634.out)
                      have n2_ := Aside0.mk (blk_drew BK637.out)
                      have n3_ := Aside0.mk (below_drew1 HB.out)
                      clear HO_6
                      clear BK634
                      clear BK637
                      clear HB
                      have HO_6 := n0_
                      have BK634 := n1_
                      have BK637 := n2_
                      have HB := n3_
                      clear n0_ n1_ n2_ n3_
                      have p638 : 0 ≤ (x7_2 : Int) := of_decide_eq_true (by first | (with_reducible assumption) | assumption)
                      have q638 : x7_2 < (l1.length : Int) := of_decide_eq_true (by first | (with_reducible assumption) | assumption)
                      obtain ⟨ad638, e638, hx638_0, hx638_1⟩ := at_T71 HR1.out x7_2 p638 q638
                      have hw638_1 := hx638_1
                      have hw638_0 := hx638_0
                      cases e638
                      replace hx638_0 := (HB.out.cell (World.block_lt_of_cell? w _ hx638_0)).trans hx638_0
                      replace hx638_1 := (HB.out.cell (World.block_lt_of_cell? w _ hx638_1)).trans hx638_1
                      replace p638 := eq_true p638
                      replace q638 := eq_true q638
                      have p639 : 0 ≤ (x7_2 : Int) := of_decide_eq_true (by first | (with_reducible assumption) | assumption)
                      have q639 : x7_2 < (l1.length : Int) := of_decide_eq_true (by first | (with_reducible assumption) | assumption)
                      obtain ⟨ad639, e639, hx639_0, hx639_1⟩ := at_T71 HR1.out x7_2 p639 q639
                      have hw639_1 := hx639_1
                      have hw639_0 := hx639_0
                      obtain rfl : ad638 = ad639 := (by injection e639)
                      replace hx639_0 := (HB.out.cell (World.block_lt_of_cell? w _ hx639_0)).trans hx639_0
                      replace hx639_1 := (HB.out.cell (World.block_lt_of_cell? w _ hx639_1)).trans hx639_1
                      replace p639 := eq_true p639
                      replace q639 := eq_true q639
                      refine start_ (n := 21) (S := fun w' => w'.cell? ⟨gb634, 0, none⟩ = some (.int .i64 a0_0) ∧ w'.cell? ⟨gb634, 1, none⟩ = some (.int .u64 a0_1) ∧ w'.cell? ⟨gb634, 2, none⟩ = some (.int .u64 a0_2) ∧ w'.cell? ⟨gb634, 3, none⟩ = some (.int .u64 a0_3) ∧ w'.cell? ⟨gb634, 4, none⟩ = some (.int .u64 a0_4) ∧ w'.cell? ⟨gb637, 0, none⟩ = some (.int .u64 x638000_2) ∧ w'.cell? ⟨gb637, 1, none⟩ = some (.int .u64 x638001_2) ∧ w'.cell? ⟨gb637, 2, none⟩ = some (.int .u64 x638002_2) ∧ w'.cell? (ad638.add ((x7_2).toNat * 2)) = some (.int .u64 ((rd_T71 l1 x7_2).f0)) ∧ w'.cell? ⟨(ad638.add ((x7_2).toNat * 2)).block, (ad638.add ((x7_2).toNat * 2)).off + 1, none⟩ = some (.int .u64 ((rd_T71 l1 x7_2).f1)) ∧ w'.cell? (ad638.add ((x7_2).toNat * 2)) = some (.int .u64 ((rd_T71 l1 x7_2).f0)) ∧ w'.cell? ⟨(ad638.add ((x7_2).toNat * 2)).block, (ad638.add ((x7_2).toNat * 2)).off + 1, none⟩ = some (.int .u64 ((rd_T71 l1 x7_2).f1))) (ds := []) #[false, false, false, false, false, false, false, false, false, false, false, false, false, false, false, false, false, false, false, false, false] (by kernel_rfl) rfl rfl ⟨(blk_cell BK634.out 0).trans rfl, (blk_cell BK634.out 1).trans rfl, (blk_cell BK634.out 2).trans rfl, (blk_cell BK634.out 3).trans rfl, (blk_cell BK634.out 4).trans rfl, (blk_cell BK637.out 0).trans rfl, (blk_cell BK637.out 1).trans rfl, (blk_cell BK637.out 2).trans rfl, ((HB.out.cell (World.block_lt_of_cell? w _ hw638_0)).trans hw638_0), ((HB.out.cell (World.block_lt_of_cell? w _ hw638_1)).trans hw638_1), ((HB.out.cell (World.block_lt_of_cell? w _ hw639_0)).trans hw639_0), ((HB.out.cell (World.block_lt_of_cell? w _ hw639_1)).trans hw639_1)⟩ (fun hHeld => ?_); refine with_tabW turnstilelaw24_AuditAdmits.tab10 turnstilelaw24_AuditAdmits.bits10 (fun HT_ HW_ => ?_)
                      generalize wr.drew = w21 at HO_6 BK634 BK637 HB hx638_0 hx638_1 hx639_0 hx639_1 hHeld ⊢
                      refine chain_ (fuel := 9) [(2, 0, some 33), (3, 0, some 34), (4, 0, some 35), (5, 0, some 36), (7, 0, some 38), (8, 0, some 39), (9, 0, some 40), (10, 0, some 41), (0, 1, some 31), (1, 1, some 32), (6, 1, some 37), (11, 1, some 42)] #[true, true, true, true, true, true, true, true, true, true, true, true, false, false, false, false, false, false, false, false, false] HT_.out HW_.out (by kernel_rfl) (fun _ _ _ _ _ h => h) (Or.inr hHeld) rfl ?_
                      (iterate 8 refine lkP ?_); (iterate 4 refine lkT ?_); refine .nil ?_
                      refine join_ (σ := Nat) 3 #[true, true, true, true, true, true, true, true, true, true, true, true, true, true, true, true, true, true, false, false, false] (fun s_ => [(43, .tuple #[.agg #[.int .u64 t640, .int .u64 t641, .int .u64 t642], .bool true, .int .u64 t644]), (8, .pointer (some ⟨s_, 0, none⟩)), (30, .tuple #[.agg #[.int .u64 t640, .int .u64 t641, .int .u64 t642], .bool true, .int .u64 t644]), (44, .agg #[.int .u64 t640, .int .u64 t641, .int .u64 t642]), (45, .bool true), (46, .int .u64 t644)]) (fun s_ w' => (w'.cell? ⟨gb634, 0, none⟩ = some (.int .i64 a0_0) ∧ w'.cell? ⟨gb634, 1, none⟩ = some (.int .u64 a0_1) ∧ w'.cell? ⟨gb634, 2, none⟩ = some (.int .u64 a0_2) ∧ w'.cell? ⟨gb634, 3, none⟩ = some (.int .u64 a0_3) ∧ w'.cell? ⟨gb634, 4, none⟩ = some (.int .u64 a0_4) ∧ w'.cell? ⟨gb637, 0, none⟩ = some (.int .u64 x638000_2) ∧ w'.cell? ⟨gb637, 1, none⟩ = some (.int .u64 x638001_2) ∧ w'.cell? ⟨gb637, 2, none⟩ = some (.int .u64 x638002_2) ∧ w'.cell? (ad638.add ((x7_2).toNat * 2)) = some (.int .u64 ((rd_T71 l1 x7_2).f0)) ∧ w'.cell? ⟨(ad638.add ((x7_2).toNat * 2)).block, (ad638.add ((x7_2).toNat * 2)).off + 1, none⟩ = some (.int .u64 ((rd_T71 l1 x7_2).f1)) ∧ w'.cell? (ad638.add ((x7_2).toNat * 2)) = some (.int .u64 ((rd_T71 l1 x7_2).f0)) ∧ w'.cell? ⟨(ad638.add ((x7_2).toNat * 2)).block, (ad638.add ((x7_2).toNat * 2)).off + 1, none⟩ = some (.int .u64 ((rd_T71 l1 x7_2).f1))) ∧ (Kd.R k31 31 w' w.heap.size (fun _ => True) u6 x6_2) ∧ (w'.heap[gb634]? = some (.cells #[.int .i64 a0_0, .int .u64 a0_1, .int .u64 a0_2, .int .u64 a0_3, .int .u64 a0_4] 24 (0, 0))) ∧ (w'.heap[gb637]? = some (.cells #[.int .u64 x638000_2, .int .u64 x638001_2, .int .u64 x638002_2] 40 (0, 0))) ∧ (w'.heap[s_]? = some (.cells #[.int .u64 0, .int .u64 0, .int .u64 0] 40 (0, 0))) ∧ (w.heap.size ≤ s_) ∧ (w.heap.size ≤ s_) ∧ (gb634 ≠ s_) ∧ (s_ ≠ gb634) ∧ (gb637 ≠ s_) ∧ (s_ ≠ gb637) ∧ (Below w.heap.size w w')) ?_ ?_
                      rotate_left
                      · intro hCont
                        refine two_ (i := 12) (j := 17) (Ni := some 43) (Nj := some 8) #[true, true, true, true, true, true, true, true, true, true, true, true, true, false, false, false, false, false, false, false, false] #[true, true, true, true, true, true, true, true, true, true, true, true, false, false, false, false, false, true, false, false, false] rfl rfl rfl rfl (two_of HT_.out (by kernel_rfl)) (by decide) (by decide) (fun K hK => ?_) (fun K hK => ?_)
                        · skip
                          refine ge Try.func25 #[.agg #[.int .i64 a0_0, .int .u64 a0_1, .int .u64 a0_2, .int .u64 a0_3, .int .u64 a0_4], .agg #[.int .u64 x638000_2, .int .u64 x638001_2, .int .u64 x638002_2], .int .u64 ((rd_T71 l1 x7_2).f0), .int .u64 ((rd_T71 l1 x7_2).f1)] ?_
                          with_reducible refine (policy_Admit.calls k2 a0_0 a0_1 a0_2 a0_3 a0_4 x638000_2 x638001_2 x638002_2 ((rd_T71 l1 x7_2).f0) ((rd_T71 l1 x7_2).f1) t640 t641 t642 true t644 _ A18.out).mono ?_
                          rintro e w22 ⟨rfl, hb⟩
                          refine ⟨_, rfl, ?_⟩
                          have n0_ := Aside0.mk (Kd.R_below (by (with_reducible repeat (first | apply Kd.R_alloc | apply Kd.R_drewN | apply Kd.R_drew)); exact HO_6.out) hb)
                          have n1_ := bb BK634 hb
                          have n2_ := bb BK637 hb
                          have n3_ := bs HB hb
                          clear HO_6
                          clear BK634
                          clear BK637
                          clear HB
                          have HO_6 := n0_
                          have BK634 := n1_
                          have BK637 := n2_
                          have HB := n3_
                          clear n0_ n1_ n2_ n3_
                          (try clear hb)
                          (try clear hb2)
                          (try clear hk)
                          (try clear hi)
                          refine hK.out _ _ ⟨(blk_cell BK634.out 0).trans rfl, (blk_cell BK634.out 1).trans rfl, (blk_cell BK634.out 2).trans rfl, (blk_cell BK634.out 3).trans rfl, (blk_cell BK634.out 4).trans rfl, (blk_cell BK637.out 0).trans rfl, (blk_cell BK637.out 1).trans rfl, (blk_cell BK637.out 2).trans rfl, ((HB.out.cell (World.block_lt_of_cell? w _ hw638_0)).trans hw638_0), ((HB.out.cell (World.block_lt_of_cell? w _ hw638_1)).trans hw638_1), ((HB.out.cell (World.block_lt_of_cell? w _ hw639_0)).trans hw639_0), ((HB.out.cell (World.block_lt_of_cell? w _ hw639_1)).trans hw639_1)⟩ (fun hHeld => ?_)
                          clear hK K
                          refine norm_ (a' := ?_) ?_ ?_
                          rotate_left
                          · show Act.put _ (some 43) _ = _
                            simp only [Act.put, List.setIfInBounds_toArray, List.set_cons_zero, List.set_cons_succ, i64_w, i32_w]
                            rfl
                          refine chain_ (fuel := 4) [(13, 0, some 30), (14, 0, some 44), (15, 0, some 45), (16, 0, some 46)] #[true, true, true, true, true, true, true, true, true, true, true, true, true, true, true, true, true, false, false, false, false] HT_.out HW_.out (by kernel_rfl) (fun _ _ _ _ _ h => h) (Or.inl (by decide)) rfl ?_
                          (iterate 4 refine lkP ?_); refine .nil ?_
                          refine one_ (i := 17) (N := some 8) #[true, true, true, true, true, true, true, true, true, true, true, true, true, true, true, true, true, true, false, false, false] rfl rfl (one_of HT_.out (by kernel_rfl)) (by decide) (fun K hK => ?_)
                          refine box_step ?hg (N := 8) ?hd (cs := #[.int .u64 0, .int .u64 0, .int .u64 0]) (t := 40) ?hr ?_; (case hd => rfl); (case hg => rfl); (case hr => first | (go_simp; done) | (go_simp; rfl))
                          intro gb645 hg w23 hbox hb
                          have n0_ := Aside0.mk (Kd.R_below (by (with_reducible repeat (first | apply Kd.R_alloc | apply Kd.R_drewN | apply Kd.R_drew)); exact HO_6.out) hb)
                          have n1_ := bb BK634 hb
                          have n2_ := bb BK637 hb
                          have n3_ := bs HB hb
                          have n4_ := Aside0.mk (hbox)
                          have n5_ := sz HB hg
                          have n6_ := sz HB hg
                          have n7_ := nl BK634 hg
                          have n8_ := nr BK634 hg
                          have n9_ := nl BK637 hg
                          have n10_ := nr BK637 hg
                          clear HO_6
                          clear BK634
                          clear BK637
                          clear HB
                          have HO_6 := n0_
                          have BK634 := n1_
                          have BK637 := n2_
                          have HB := n3_
                          have BK645 := n4_
                          have GW645 := n5_
                          have GE645 := n6_
                          have NB634_645 := n7_
                          have NB645_634 := n8_
                          have NB637_645 := n9_
                          have NB645_637 := n10_
                          clear n0_ n1_ n2_ n3_ n4_ n5_ n6_ n7_ n8_ n9_ n10_
                          clear hb hbox hg
                          refine hK.out _ _ ⟨(blk_cell BK634.out 0).trans rfl, (blk_cell BK634.out 1).trans rfl, (blk_cell BK634.out 2).trans rfl, (blk_cell BK634.out 3).trans rfl, (blk_cell BK634.out 4).trans rfl, (blk_cell BK637.out 0).trans rfl, (blk_cell BK637.out 1).trans rfl, (blk_cell BK637.out 2).trans rfl, ((HB.out.cell (World.block_lt_of_cell? w _ hw638_0)).trans hw638_0), ((HB.out.cell (World.block_lt_of_cell? w _ hw638_1)).trans hw638_1), ((HB.out.cell (World.block_lt_of_cell? w _ hw639_0)).trans hw639_0), ((HB.out.cell (World.block_lt_of_cell? w _ hw639_1)).trans hw639_1)⟩ (fun hHeld => ?_)
                          clear hK K
                          refine norm_ (a' := ?_) ?_ ?_
                          rotate_left
                          · show Act.put _ (some 8) _ = _
                            simp only [Act.put, List.setIfInBounds_toArray, List.set_cons_zero, List.set_cons_succ, i64_w, i32_w]
                            rfl
                          exact norm_ (by simp only [putAll, Act.put, List.setIfInBounds_toArray, List.set_cons_zero, List.set_cons_succ]) (hCont (gb645) _ ⟨hHeld, (by (with_reducible repeat (first | apply Kd.R_alloc | apply Kd.R_drewN | apply Kd.R_drew)); exact HO_6.out), (bk BK634), (bk BK637), (bk BK645), GW645.out, GE645.out, NB634_645.out, NB645_634.out, NB637_645.out, NB645_637.out, (bw HB)⟩)
                        · skip
                          refine box_step ?hg (N := 8) ?hd (cs := #[.int .u64 0, .int .u64 0, .int .u64 0]) (t := 40) ?hr ?_; (case hd => rfl); (case hg => rfl); (case hr => first | (go_simp; done) | (go_simp; rfl))
                          intro gb645 hg w22 hbox hb
                          have n0_ := Aside0.mk (Kd.R_below (by (with_reducible repeat (first | apply Kd.R_alloc | apply Kd.R_drewN | apply Kd.R_drew)); exact HO_6.out) hb)
                          have n1_ := bb BK634 hb
                          have n2_ := bb BK637 hb
                          have n3_ := bs HB hb
                          have n4_ := Aside0.mk (hbox)
                          have n5_ := sz HB hg
                          have n6_ := sz HB hg
                          have n7_ := nl BK634 hg
                          have n8_ := nr BK634 hg
                          have n9_ := nl BK637 hg
                          have n10_ := nr BK637 hg
                          clear HO_6
                          clear BK634
                          clear BK637
                          clear HB
                          have HO_6 := n0_
                          have BK634 := n1_
                          have BK637 := n2_
                          have HB := n3_
                          have BK645 := n4_
                          have GW645 := n5_
                          have GE645 := n6_
                          have NB634_645 := n7_
                          have NB645_634 := n8_
                          have NB637_645 := n9_
                          have NB645_637 := n10_
                          clear n0_ n1_ n2_ n3_ n4_ n5_ n6_ n7_ n8_ n9_ n10_
                          clear hb hbox hg
                          refine hK.out _ _ ⟨(blk_cell BK634.out 0).trans rfl, (blk_cell BK634.out 1).trans rfl, (blk_cell BK634.out 2).trans rfl, (blk_cell BK634.out 3).trans rfl, (blk_cell BK634.out 4).trans rfl, (blk_cell BK637.out 0).trans rfl, (blk_cell BK637.out 1).trans rfl, (blk_cell BK637.out 2).trans rfl, ((HB.out.cell (World.block_lt_of_cell? w _ hw638_0)).trans hw638_0), ((HB.out.cell (World.block_lt_of_cell? w _ hw638_1)).trans hw638_1), ((HB.out.cell (World.block_lt_of_cell? w _ hw639_0)).trans hw639_0), ((HB.out.cell (World.block_lt_of_cell? w _ hw639_1)).trans hw639_1)⟩ (fun hHeld => ?_)
                          clear hK K
                          refine norm_ (a' := ?_) ?_ ?_
                          rotate_left
                          · show Act.put _ (some 8) _ = _
                            simp only [Act.put, List.setIfInBounds_toArray, List.set_cons_zero, List.set_cons_succ, i64_w, i32_w]
                            rfl
                          refine one_ (i := 12) (N := some 43) #[true, true, true, true, true, true, true, true, true, true, true, true, true, false, false, false, false, true, false, false, false] rfl rfl (one_of HT_.out (by kernel_rfl)) (by decide) (fun K hK => ?_)
                          refine ge Try.func25 #[.agg #[.int .i64 a0_0, .int .u64 a0_1, .int .u64 a0_2, .int .u64 a0_3, .int .u64 a0_4], .agg #[.int .u64 x638000_2, .int .u64 x638001_2, .int .u64 x638002_2], .int .u64 ((rd_T71 l1 x7_2).f0), .int .u64 ((rd_T71 l1 x7_2).f1)] ?_
                          with_reducible refine (policy_Admit.calls k2 a0_0 a0_1 a0_2 a0_3 a0_4 x638000_2 x638001_2 x638002_2 ((rd_T71 l1 x7_2).f0) ((rd_T71 l1 x7_2).f1) t640 t641 t642 true t644 _ A18.out).mono ?_
                          rintro e w23 ⟨rfl, hb⟩
                          refine ⟨_, rfl, ?_⟩
                          have n0_ := Aside0.mk (Kd.R_below (by (with_reducible repeat (first | apply Kd.R_alloc | apply Kd.R_drewN | apply Kd.R_drew)); exact HO_6.out) hb)
                          have n1_ := bb BK634 hb
                          have n2_ := bb BK637 hb
                          have n3_ := bb BK645 hb
                          have n4_ := bs HB hb
                          clear HO_6
                          clear BK634
                          clear BK637
                          clear BK645
                          clear HB
                          have HO_6 := n0_
                          have BK634 := n1_
                          have BK637 := n2_
                          have BK645 := n3_
                          have HB := n4_
                          clear n0_ n1_ n2_ n3_ n4_
                          (try clear hb)
                          (try clear hb2)
                          (try clear hk)
                          (try clear hi)
                          refine hK.out _ _ ⟨(blk_cell BK634.out 0).trans rfl, (blk_cell BK634.out 1).trans rfl, (blk_cell BK634.out 2).trans rfl, (blk_cell BK634.out 3).trans rfl, (blk_cell BK634.out 4).trans rfl, (blk_cell BK637.out 0).trans rfl, (blk_cell BK637.out 1).trans rfl, (blk_cell BK637.out 2).trans rfl, ((HB.out.cell (World.block_lt_of_cell? w _ hw638_0)).trans hw638_0), ((HB.out.cell (World.block_lt_of_cell? w _ hw638_1)).trans hw638_1), ((HB.out.cell (World.block_lt_of_cell? w _ hw639_0)).trans hw639_0), ((HB.out.cell (World.block_lt_of_cell? w _ hw639_1)).trans hw639_1)⟩ (fun hHeld => ?_)
                          clear hK K
                          refine norm_ (a' := ?_) ?_ ?_
                          rotate_left
                          · show Act.put _ (some 43) _ = _
                            simp only [Act.put, List.setIfInBounds_toArray, List.set_cons_zero, List.set_cons_succ, i64_w, i32_w]
                            rfl
                          refine chain_ (fuel := 3) [(13, 0, some 30), (14, 0, some 44), (15, 0, some 45), (16, 0, some 46)] #[true, true, true, true, true, true, true, true, true, true, true, true, true, true, true, true, true, true, false, false, false] HT_.out HW_.out (by kernel_rfl) (fun _ _ _ _ _ h => h) (Or.inl (by decide)) rfl ?_
                          (iterate 4 refine lkP ?_); refine .nil ?_
                          exact norm_ (by simp only [putAll, Act.put, List.setIfInBounds_toArray, List.set_cons_zero, List.set_cons_succ]) (hCont (gb645) _ ⟨hHeld, (by (with_reducible repeat (first | apply Kd.R_alloc | apply Kd.R_drewN | apply Kd.R_drew)); exact HO_6.out), (bk BK634), (bk BK637), (bk BK645), GW645.out, GE645.out, NB634_645.out, NB645_634.out, NB637_645.out, NB645_637.out, (bw HB)⟩)
                      rintro gb645 w24 ⟨hS_, h0_, h1_, h2_, h3_, h4_, h5_, h6_, h7_, h8_, h9_, h10_⟩
                      have n0_ : Aside0 (Kd.R k31 31 w24 w.heap.size (fun _ => True) u6 x6_2) := ⟨h0_⟩
                      have n1_ : Aside0 (w24.heap[gb634]? = some (.cells #[.int .i64 a0_0, .int .u64 a0_1, .int .u64 a0_2, .int .u64 a0_3, .int .u64 a0_4] 24 (0, 0))) := ⟨h1_⟩
                      have n2_ : Aside0 (w24.heap[gb637]? = some (.cells #[.int .u64 x638000_2, .int .u64 x638001_2, .int .u64 x638002_2] 40 (0, 0))) := ⟨h2_⟩
                      have n3_ : Aside0 (w24.heap[gb645]? = some (.cells #[.int .u64 0, .int .u64 0, .int .u64 0] 40 (0, 0))) := ⟨h3_⟩
                      have n4_ : Aside0 (w.heap.size ≤ gb645) := ⟨h4_⟩
                      have n5_ : Aside0 (w.heap.size ≤ gb645) := ⟨h5_⟩
                      have n6_ : Aside0 (gb634 ≠ gb645) := ⟨h6_⟩
                      have n7_ : Aside0 (gb645 ≠ gb634) := ⟨h7_⟩
                      have n8_ : Aside0 (gb637 ≠ gb645) := ⟨h8_⟩
                      have n9_ : Aside0 (gb645 ≠ gb637) := ⟨h9_⟩
                      have n10_ : Aside0 (Below w.heap.size w w24) := ⟨h10_⟩
                      clear HO_6
                      clear BK634
                      clear BK637
                      clear HB
                      clear h0_ h1_ h2_ h3_ h4_ h5_ h6_ h7_ h8_ h9_ h10_
                      have HO_6 := n0_
                      have BK634 := n1_
                      have BK637 := n2_
                      have BK645 := n3_
                      have GW645 := n4_
                      have GE645 := n5_
                      have NB634_645 := n6_
                      have NB645_634 := n7_
                      have NB637_645 := n8_
                      have NB645_637 := n9_
                      have HB := n10_
                      clear n0_ n1_ n2_ n3_ n4_ n5_ n6_ n7_ n8_ n9_ n10_
                      have hHeld : w24.cell? ⟨gb634, 0, none⟩ = some (.int .i64 a0_0) ∧ w24.cell? ⟨gb634, 1, none⟩ = some (.int .u64 a0_1) ∧ w24.cell? ⟨gb634, 2, none⟩ = some (.int .u64 a0_2) ∧ w24.cell? ⟨gb634, 3, none⟩ = some (.int .u64 a0_3) ∧ w24.cell? ⟨gb634, 4, none⟩ = some (.int .u64 a0_4) ∧ w24.cell? ⟨gb637, 0, none⟩ = some (.int .u64 x638000_2) ∧ w24.cell? ⟨gb637, 1, none⟩ = some (.int .u64 x638001_2) ∧ w24.cell? ⟨gb637, 2, none⟩ = some (.int .u64 x638002_2) ∧ w24.cell? (ad638.add ((x7_2).toNat * 2)) = some (.int .u64 ((rd_T71 l1 x7_2).f0)) ∧ w24.cell? ⟨(ad638.add ((x7_2).toNat * 2)).block, (ad638.add ((x7_2).toNat * 2)).off + 1, none⟩ = some (.int .u64 ((rd_T71 l1 x7_2).f1)) ∧ w24.cell? (ad638.add ((x7_2).toNat * 2)) = some (.int .u64 ((rd_T71 l1 x7_2).f0)) ∧ w24.cell? ⟨(ad638.add ((x7_2).toNat * 2)).block, (ad638.add ((x7_2).toNat * 2)).off + 1, none⟩ = some (.int .u64 ((rd_T71 l1 x7_2).f1)) := hS_
                      refine norm_ (a' := ?_) ?_ ?_
                      rotate_left
                      · simp only [putAll, Act.put, List.setIfInBounds_toArray, List.set_cons_zero, List.set_cons_succ]
                        rfl
                      refine one_ (i := 18) (N := none) #[true, true, true, true, true, true, true, true, true, true, true, true, true, true, true, true, true, true, true, false, false] rfl rfl (one_of HT_.out (by kernel_rfl)) (by decide) (fun K hK => ?_)
                      have hs25 : w24.cell? ⟨gb645, 0, none⟩ = some (.int .u64 0) := (blk_cell BK645.out 0).trans rfl
                      have hfs25 := blk_frozen BK645.out 0
                      have hns25_0 := NB634_645.out
                      have hns25_1 := NB637_645.out
                      have hms25_0 := NB645_634.out
                      have hms25_1 := NB645_637.out
                      have hs26 : w24.cell? ⟨gb645, 1, none⟩ = some (.int .u64 0) := (blk_cell BK645.out 1).trans rfl
                      have hfs26 := blk_frozen BK645.out 1
                      have hns26_0 := NB634_645.out
                      have hns26_1 := NB637_645.out
                      have hms26_0 := NB645_634.out
                      have hms26_1 := NB645_637.out
                      have hs27 : w24.cell? ⟨gb645, 2, none⟩ = some (.int .u64 0) := (blk_cell BK645.out 2).trans rfl
                      have hfs27 := blk_frozen BK645.out 2
                      have hns27_0 := NB634_645.out
                      have hns27_1 := NB637_645.out
                      have hms27_0 := NB645_634.out
                      have hms27_1 := NB645_637.out
                      refine skip_ (w1 := ?_) (by rfl) rfl ?_ ?_
                      rotate_left
                      · go_simp
                        rfl
                      refine hK.out _ _ ⟨((cell_far (p := ⟨gb645, _, none⟩) NB634_645.out _).trans (((cell_far (p := ⟨gb645, _, none⟩) NB634_645.out _).trans (((cell_far (p := ⟨gb645, _, none⟩) NB634_645.out _).trans (hHeld.1)))))), ((cell_far (p := ⟨gb645, _, none⟩) NB634_645.out _).trans (((cell_far (p := ⟨gb645, _, none⟩) NB634_645.out _).trans (((cell_far (p := ⟨gb645, _, none⟩) NB634_645.out _).trans (hHeld.2.1)))))), ((cell_far (p := ⟨gb645, _, none⟩) NB634_645.out _).trans (((cell_far (p := ⟨gb645, _, none⟩) NB634_645.out _).trans (((cell_far (p := ⟨gb645, _, none⟩) NB634_645.out _).trans (hHeld.2.2.1)))))), ((cell_far (p := ⟨gb645, _, none⟩) NB634_645.out _).trans (((cell_far (p := ⟨gb645, _, none⟩) NB634_645.out _).trans (((cell_far (p := ⟨gb645, _, none⟩) NB634_645.out _).trans (hHeld.2.2.2.1)))))), ((cell_far (p := ⟨gb645, _, none⟩) NB634_645.out _).trans (((cell_far (p := ⟨gb645, _, none⟩) NB634_645.out _).trans (((cell_far (p := ⟨gb645, _, none⟩) NB634_645.out _).trans (hHeld.2.2.2.2.1)))))), ((cell_far (p := ⟨gb645, _, none⟩) NB637_645.out _).trans (((cell_far (p := ⟨gb645, _, none⟩) NB637_645.out _).trans (((cell_far (p := ⟨gb645, _, none⟩) NB637_645.out _).trans (hHeld.2.2.2.2.2.1)))))), ((cell_far (p := ⟨gb645, _, none⟩) NB637_645.out _).trans (((cell_far (p := ⟨gb645, _, none⟩) NB637_645.out _).trans (((cell_far (p := ⟨gb645, _, none⟩) NB637_645.out _).trans (hHeld.2.2.2.2.2.2.1)))))), ((cell_far (p := ⟨gb645, _, none⟩) NB637_645.out _).trans (((cell_far (p := ⟨gb645, _, none⟩) NB637_645.out _).trans (((cell_far (p := ⟨gb645, _, none⟩) NB637_645.out _).trans (hHeld.2.2.2.2.2.2.2.1)))))), ((cell_far (p := ⟨gb645, _, none⟩) (by first | exact Nat.ne_of_lt (Nat.lt_of_lt_of_le (by have := World.block_lt_of_cell? _ _ hw638_0; first | rwa [add_block] at this | exact this) GW645.out) | (rw [add_block]; exact Nat.ne_of_lt (Nat.lt_of_lt_of_le (by have := World.block_lt_of_cell? _ _ hw638_0; first | rwa [add_block] at this | exact this) GW645.out)) | (show (Addr.add _ _).block ≠ _; rw [add_block]; exact Nat.ne_of_lt (Nat.lt_of_lt_of_le (by have := World.block_lt_of_cell? _ _ hw638_0; first | rwa [add_block] at this | exact this) GW645.out)) | (dsimp only; exact Nat.ne_of_lt (Nat.lt_of_lt_of_le (by have := World.block_lt_of_cell? _ _ hw638_0; first | rwa [add_block] at this | exact this) GW645.out))) _).trans (((cell_far (p := ⟨gb645, _, none⟩) (by first | exact Nat.ne_of_lt (Nat.lt_of_lt_of_le (by have := World.block_lt_of_cell? _ _ hw638_0; first | rwa [add_block] at this | exact this) GW645.out) | (rw [add_block]; exact Nat.ne_of_lt (Nat.lt_of_lt_of_le (by have := World.block_lt_of_cell? _ _ hw638_0; first | rwa [add_block] at this | exact this) GW645.out)) | (show (Addr.add _ _).block ≠ _; rw [add_block]; exact Nat.ne_of_lt (Nat.lt_of_lt_of_le (by have := World.block_lt_of_cell? _ _ hw638_0; first | rwa [add_block] at this | exact this) GW645.out)) | (dsimp only; exact Nat.ne_of_lt (Nat.lt_of_lt_of_le (by have := World.block_lt_of_cell? _ _ hw638_0; first | rwa [add_block] at this | exact this) GW645.out))) _).trans (((cell_far (p := ⟨gb645, _, none⟩) (by first | exact Nat.ne_of_lt (Nat.lt_of_lt_of_le (by have := World.block_lt_of_cell? _ _ hw638_0; first | rwa [add_block] at this | exact this) GW645.out) | (rw [add_block]; exact Nat.ne_of_lt (Nat.lt_of_lt_of_le (by have := World.block_lt_of_cell? _ _ hw638_0; first | rwa [add_block] at this | exact this) GW645.out)) | (show (Addr.add _ _).block ≠ _; rw [add_block]; exact Nat.ne_of_lt (Nat.lt_of_lt_of_le (by have := World.block_lt_of_cell? _ _ hw638_0; first | rwa [add_block] at this | exact this) GW645.out)) | (dsimp only; exact Nat.ne_of_lt (Nat.lt_of_lt_of_le (by have := World.block_lt_of_cell? _ _ hw638_0; first | rwa [add_block] at this | exact this) GW645.out))) _).trans (hHeld.2.2.2.2.2.2.2.2.1)))))), ((cell_far (p := ⟨gb645, _, none⟩) (by first | exact Nat.ne_of_lt (Nat.lt_of_lt_of_le (by have := World.block_lt_of_cell? _ _ hw638_1; first | rwa [add_block] at this | exact this) GW645.out) | (rw [add_block]; exact Nat.ne_of_lt (Nat.lt_of_lt_of_le (by have := World.block_lt_of_cell? _ _ hw638_1; first | rwa [add_block] at this | exact this) GW645.out)) | (show (Addr.add _ _).block ≠ _; rw [add_block]; exact Nat.ne_of_lt (Nat.lt_of_lt_of_le (by have := World.block_lt_of_cell? _ _ hw638_1; first | rwa [add_block] at this | exact this) GW645.out)) | (dsimp only; exact Nat.ne_of_lt (Nat.lt_of_lt_of_le (by have := World.block_lt_of_cell? _ _ hw638_1; first | rwa [add_block] at this | exact this) GW645.out))) _).trans (((cell_far (p := ⟨gb645, _, none⟩) (by first | exact Nat.ne_of_lt (Nat.lt_of_lt_of_le (by have := World.block_lt_of_cell? _ _ hw638_1; first | rwa [add_block] at this | exact this) GW645.out) | (rw [add_block]; exact Nat.ne_of_lt (Nat.lt_of_lt_of_le (by have := World.block_lt_of_cell? _ _ hw638_1; first | rwa [add_block] at this | exact this) GW645.out)) | (show (Addr.add _ _).block ≠ _; rw [add_block]; exact Nat.ne_of_lt (Nat.lt_of_lt_of_le (by have := World.block_lt_of_cell? _ _ hw638_1; first | rwa [add_block] at this | exact this) GW645.out)) | (dsimp only; exact Nat.ne_of_lt (Nat.lt_of_lt_of_le (by have := World.block_lt_of_cell? _ _ hw638_1; first | rwa [add_block] at this | exact this) GW645.out))) _).trans (((cell_far (p := ⟨gb645, _, none⟩) (by first | exact Nat.ne_of_lt (Nat.lt_of_lt_of_le (by have := World.block_lt_of_cell? _ _ hw638_1; first | rwa [add_block] at this | exact this) GW645.out) | (rw [add_block]; exact Nat.ne_of_lt (Nat.lt_of_lt_of_le (by have := World.block_lt_of_cell? _ _ hw638_1; first | rwa [add_block] at this | exact this) GW645.out)) | (show (Addr.add _ _).block ≠ _; rw [add_block]; exact Nat.ne_of_lt (Nat.lt_of_lt_of_le (by have := World.block_lt_of_cell? _ _ hw638_1; first | rwa [add_block] at this | exact this) GW645.out)) | (dsimp only; exact Nat.ne_of_lt (Nat.lt_of_lt_of_le (by have := World.block_lt_of_cell? _ _ hw638_1; first | rwa [add_block] at this | exact this) GW645.out))) _).trans (hHeld.2.2.2.2.2.2.2.2.2.1)))))), ((cell_far (p := ⟨gb645, _, none⟩) (by first | exact Nat.ne_of_lt (Nat.lt_of_lt_of_le (by have := World.block_lt_of_cell? _ _ hw639_0; first | rwa [add_block] at this | exact this) GW645.out) | (rw [add_block]; exact Nat.ne_of_lt (Nat.lt_of_lt_of_le (by have := World.block_lt_of_cell? _ _ hw639_0; first | rwa [add_block] at this | exact this) GW645.out)) | (show (Addr.add _ _).block ≠ _; rw [add_block]; exact Nat.ne_of_lt (Nat.lt_of_lt_of_le (by have := World.block_lt_of_cell? _ _ hw639_0; first | rwa [add_block] at this | exact this) GW645.out)) | (dsimp only; exact Nat.ne_of_lt (Nat.lt_of_lt_of_le (by have := World.block_lt_of_cell? _ _ hw639_0; first | rwa [add_block] at this | exact this) GW645.out))) _).trans (((cell_far (p := ⟨gb645, _, none⟩) (by first | exact Nat.ne_of_lt (Nat.lt_of_lt_of_le (by have := World.block_lt_of_cell? _ _ hw639_0; first | rwa [add_block] at this | exact this) GW645.out) | (rw [add_block]; exact Nat.ne_of_lt (Nat.lt_of_lt_of_le (by have := World.block_lt_of_cell? _ _ hw639_0; first | rwa [add_block] at this | exact this) GW645.out)) | (show (Addr.add _ _).block ≠ _; rw [add_block]; exact Nat.ne_of_lt (Nat.lt_of_lt_of_le (by have := World.block_lt_of_cell? _ _ hw639_0; first | rwa [add_block] at this | exact this) GW645.out)) | (dsimp only; exact Nat.ne_of_lt (Nat.lt_of_lt_of_le (by have := World.block_lt_of_cell? _ _ hw639_0; first | rwa [add_block] at this | exact this) GW645.out))) _).trans (((cell_far (p := ⟨gb645, _, none⟩) (by first | exact Nat.ne_of_lt (Nat.lt_of_lt_of_le (by have := World.block_lt_of_cell? _ _ hw639_0; first | rwa [add_block] at this | exact this) GW645.out) | (rw [add_block]; exact Nat.ne_of_lt (Nat.lt_of_lt_of_le (by have := World.block_lt_of_cell? _ _ hw639_0; first | rwa [add_block] at this | exact this) GW645.out)) | (show (Addr.add _ _).block ≠ _; rw [add_block]; exact Nat.ne_of_lt (Nat.lt_of_lt_of_le (by have := World.block_lt_of_cell? _ _ hw639_0; first | rwa [add_block] at this | exact this) GW645.out)) | (dsimp only; exact Nat.ne_of_lt (Nat.lt_of_lt_of_le (by have := World.block_lt_of_cell? _ _ hw639_0; first | rwa [add_block] at this | exact this) GW645.out))) _).trans (hHeld.2.2.2.2.2.2.2.2.2.2.1)))))), ((cell_far (p := ⟨gb645, _, none⟩) (by first | exact Nat.ne_of_lt (Nat.lt_of_lt_of_le (by have := World.block_lt_of_cell? _ _ hw639_1; first | rwa [add_block] at this | exact this) GW645.out) | (rw [add_block]; exact Nat.ne_of_lt (Nat.lt_of_lt_of_le (by have := World.block_lt_of_cell? _ _ hw639_1; first | rwa [add_block] at this | exact this) GW645.out)) | (show (Addr.add _ _).block ≠ _; rw [add_block]; exact Nat.ne_of_lt (Nat.lt_of_lt_of_le (by have := World.block_lt_of_cell? _ _ hw639_1; first | rwa [add_block] at this | exact this) GW645.out)) | (dsimp only; exact Nat.ne_of_lt (Nat.lt_of_lt_of_le (by have := World.block_lt_of_cell? _ _ hw639_1; first | rwa [add_block] at this | exact this) GW645.out))) _).trans (((cell_far (p := ⟨gb645, _, none⟩) (by first | exact Nat.ne_of_lt (Nat.lt_of_lt_of_le (by have := World.block_lt_of_cell? _ _ hw639_1; first | rwa [add_block] at this | exact this) GW645.out) | (rw [add_block]; exact Nat.ne_of_lt (Nat.lt_of_lt_of_le (by have := World.block_lt_of_cell? _ _ hw639_1; first | rwa [add_block] at this | exact this) GW645.out)) | (show (Addr.add _ _).block ≠ _; rw [add_block]; exact Nat.ne_of_lt (Nat.lt_of_lt_of_le (by have := World.block_lt_of_cell? _ _ hw639_1; first | rwa [add_block] at this | exact this) GW645.out)) | (dsimp only; exact Nat.ne_of_lt (Nat.lt_of_lt_of_le (by have := World.block_lt_of_cell? _ _ hw639_1; first | rwa [add_block] at this | exact this) GW645.out))) _).trans (((cell_far (p := ⟨gb645, _, none⟩) (by first | exact Nat.ne_of_lt (Nat.lt_of_lt_of_le (by have := World.block_lt_of_cell? _ _ hw639_1; first | rwa [add_block] at this | exact this) GW645.out) | (rw [add_block]; exact Nat.ne_of_lt (Nat.lt_of_lt_of_le (by have := World.block_lt_of_cell? _ _ hw639_1; first | rwa [add_block] at this | exact this) GW645.out)) | (show (Addr.add _ _).block ≠ _; rw [add_block]; exact Nat.ne_of_lt (Nat.lt_of_lt_of_le (by have := World.block_lt_of_cell? _ _ hw639_1; first | rwa [add_block] at this | exact this) GW645.out)) | (dsimp only; exact Nat.ne_of_lt (Nat.lt_of_lt_of_le (by have := World.block_lt_of_cell? _ _ hw639_1; first | rwa [add_block] at this | exact this) GW645.out))) _).trans (hHeld.2.2.2.2.2.2.2.2.2.2.2))))))⟩ (fun hHeld => ?_)
                      clear hK K
                      refine chain_ (fuel := 0) [(19, 0, some 9), (20, 0, some 10)] #[true, true, true, true, true, true, true, true, true, true, true, true, true, true, true, true, true, true, true, true, true] HT_.out HW_.out (by kernel_rfl) (fun _ _ _ _ _ h => h) (Or.inl (by decide)) rfl ?_
                      (iterate 2 refine lkP ?_); refine .nil ?_
                      refine done_ (done_of HT_.out (by kernel_rfl)) ?_
                      try go_wp2
                      have n0_ : Aside0 (Kd.R k31 31 (((w24.setCell ⟨gb645, 0, none⟩ (.int .u64 t640)).setCell ⟨gb645, 1, none⟩ (.int .u64 t641)).setCell ⟨gb645, 2, none⟩ (.int .u64 t642)) w.heap.size (fun _ => True) u6 x6_2) := ⟨by (with_reducible repeat (first | apply Kd.R_alloc | apply Kd.R_drewN | apply Kd.R_drew)); exact Kd.R_mono (Kd.R_far (p := ⟨gb645, 2, none⟩) (Kd.R_far (p := ⟨gb645, 1, none⟩) (Kd.R_far (p := ⟨gb645, 0, none⟩) (Kd.R_types HO_6.out BK645.out (by decide)) (fun _ hk => hk.2) (.int .u64 t640)) (fun _ hk => hk.2) (.int .u64 t641)) (fun _ hk => hk.2) (.int .u64 t642)) (fun _ hk => trivial)⟩
                      have n1_ : Aside0 ((((w24.setCell ⟨gb645, 0, none⟩ (.int .u64 t640)).setCell ⟨gb645, 1, none⟩ (.int .u64 t641)).setCell ⟨gb645, 2, none⟩ (.int .u64 t642)).heap[gb634]? = some (.cells #[.int .i64 a0_0, .int .u64 a0_1, .int .u64 a0_2, .int .u64 a0_3, .int .u64 a0_4] 24 (0, 0))) := ⟨bk BK634⟩
                      have n2_ : Aside0 ((((w24.setCell ⟨gb645, 0, none⟩ (.int .u64 t640)).setCell ⟨gb645, 1, none⟩ (.int .u64 t641)).setCell ⟨gb645, 2, none⟩ (.int .u64 t642)).heap[gb637]? = some (.cells #[.int .u64 x638000_2, .int .u64 x638001_2, .int .u64 x638002_2] 40 (0, 0))) := ⟨bk BK637⟩
                      have n3_ : Aside0 ((((w24.setCell ⟨gb645, 0, none⟩ (.int .u64 t640)).setCell ⟨gb645, 1, none⟩ (.int .u64 t641)).setCell ⟨gb645, 2, none⟩ (.int .u64 t642)).heap[gb645]? = some (.cells #[.int .u64 t640, .int .u64 t641, .int .u64 t642] 40 (0, 0))) := ⟨bk BK645⟩
                      have n4_ : Aside0 (Below w.heap.size w (((w24.setCell ⟨gb645, 0, none⟩ (.int .u64 t640)).setCell ⟨gb645, 1, none⟩ (.int .u64 t641)).setCell ⟨gb645, 2, none⟩ (.int .u64 t642))) := ⟨bw HB⟩
                      (try clear HO_6)
                      (try clear BK634)
                      (try clear BK637)
                      (try clear BK645)
                      (try clear HB)
                      generalize (((w24.setCell ⟨gb645, 0, none⟩ (.int .u64 t640)).setCell ⟨gb645, 1, none⟩ (.int .u64 t641)).setCell ⟨gb645, 2, none⟩ (.int .u64 t642)) = w28 at n0_ n1_ n2_ n3_ n4_ ⊢
                      have HO_6 := n0_
                      have BK634 := n1_
                      have BK637 := n2_
                      have BK645 := n3_
                      have HB := n4_
                      clear n0_ n1_ n2_ n3_ n4_
                      have n0_ := Aside0.mk (Kd.R_drew HO_6.out)
                      have n1_ := Aside0.mk (blk_drew BK634.out)
                      have n2_ := Aside0.mk (blk_drew BK637.out)
                      have n3_ := Aside0.mk (blk_drew BK645.out)
                      have n4_ := Aside0.mk (below_drew1 HB.out)
                      clear HO_6
                      clear BK634
                      clear BK637
                      clear BK645
                      clear HB
                      have HO_6 := n0_
                      have BK634 := n1_
                      have BK637 := n2_
                      have BK645 := n3_
                      have HB := n4_
                      clear n0_ n1_ n2_ n3_ n4_
                      have p646 : 0 ≤ (x7_2 : Int) := of_decide_eq_true (by first | (with_reducible assumption) | assumption)
                      have q646 : x7_2 < (l1.length : Int) := of_decide_eq_true (by first | (with_reducible assumption) | assumption)
                      obtain ⟨ad646, e646, hx646_0, hx646_1⟩ := at_T71 HR1.out x7_2 p646 q646
                      have hw646_1 := hx646_1
                      have hw646_0 := hx646_0
                      obtain rfl : ad638 = ad646 := (by injection e646)
                      replace hx646_0 := (HB.out.cell (World.block_lt_of_cell? w _ hx646_0)).trans hx646_0
                      replace hx646_1 := (HB.out.cell (World.block_lt_of_cell? w _ hx646_1)).trans hx646_1
                      replace p646 := eq_true p646
                      replace q646 := eq_true q646
                      have p647 : 0 ≤ (x7_2 : Int) := of_decide_eq_true (by first | (with_reducible assumption) | assumption)
                      have q647 : x7_2 < (l1.length : Int) := of_decide_eq_true (by first | (with_reducible assumption) | assumption)
                      obtain ⟨ad647, e647, hx647_0, hx647_1⟩ := at_T71 HR1.out x7_2 p647 q647
                      have hw647_1 := hx647_1
                      have hw647_0 := hx647_0
                      obtain rfl : ad638 = ad647 := (by injection e647)
                      replace hx647_0 := (HB.out.cell (World.block_lt_of_cell? w _ hx647_0)).trans hx647_0
                      replace hx647_1 := (HB.out.cell (World.block_lt_of_cell? w _ hx647_1)).trans hx647_1
                      replace p647 := eq_true p647
                      replace q647 := eq_true q647
                      refine start_ (n := 15) (S := fun w' => w'.cell? (ad638.add ((x7_2).toNat * 2)) = some (.int .u64 ((rd_T71 l1 x7_2).f0)) ∧ w'.cell? ⟨(ad638.add ((x7_2).toNat * 2)).block, (ad638.add ((x7_2).toNat * 2)).off + 1, none⟩ = some (.int .u64 ((rd_T71 l1 x7_2).f1)) ∧ w'.cell? (ad638.add ((x7_2).toNat * 2)) = some (.int .u64 ((rd_T71 l1 x7_2).f0)) ∧ w'.cell? ⟨(ad638.add ((x7_2).toNat * 2)).block, (ad638.add ((x7_2).toNat * 2)).off + 1, none⟩ = some (.int .u64 ((rd_T71 l1 x7_2).f1))) (ds := []) #[false, false, false, false, false, false, false, false, false, false, false, false, false, false, false] (by kernel_rfl) rfl rfl ⟨((HB.out.cell (World.block_lt_of_cell? w _ hw646_0)).trans hw646_0), ((HB.out.cell (World.block_lt_of_cell? w _ hw646_1)).trans hw646_1), ((HB.out.cell (World.block_lt_of_cell? w _ hw647_0)).trans hw647_0), ((HB.out.cell (World.block_lt_of_cell? w _ hw647_1)).trans hw647_1)⟩ (fun hHeld => ?_); refine with_tabW turnstilelaw24_AuditAdmits.tab12 turnstilelaw24_AuditAdmits.bits12 (fun HT_ HW_ => ?_)
                      generalize w28.drew = w29 at HO_6 BK634 BK637 BK645 HB hx646_0 hx646_1 hx647_0 hx647_1 hHeld ⊢
                      refine chain_ (fuel := 3) [(0, 0, some 48), (1, 0, some 49), (2, 0, some 50), (3, 0, some 51), (4, 0, some 52), (6, 0, some 54), (7, 0, some 55), (8, 0, some 56), (9, 0, some 57), (5, 1, some 53), (10, 1, some 58), (11, 0, some 59)] #[true, true, true, true, true, true, true, true, true, true, true, true, false, false, false] HT_.out HW_.out (by kernel_rfl) (fun _ _ _ _ _ h => h) (Or.inr hHeld) rfl ?_
                      (iterate 9 refine lkP ?_); (iterate 2 refine lkT ?_); refine lkP ?_; refine .nil ?_
                      refine one_ (i := 12) (N := some 60) #[true, true, true, true, true, true, true, true, true, true, true, true, true, false, false] rfl rfl (one_of HT_.out (by kernel_rfl)) (by decide) (fun K hK => ?_)
                      refine value_ (w1 := ?_) (v := ?_) (by rfl) rfl ?_ ?_
                      rotate_left 2
                      · go_simp
                        constructor
                        · rfl
                        · rfl
                      refine hK.out _ _ ⟨(World.cell?_alloc_lt _ _ _ (World.block_lt_of_cell? _ _ (((HB.out.cell (World.block_lt_of_cell? w _ hw646_0)).trans hw646_0)))).trans (((HB.out.cell (World.block_lt_of_cell? w _ hw646_0)).trans hw646_0)), (World.cell?_alloc_lt _ _ _ (World.block_lt_of_cell? _ _ (((HB.out.cell (World.block_lt_of_cell? w _ hw646_1)).trans hw646_1)))).trans (((HB.out.cell (World.block_lt_of_cell? w _ hw646_1)).trans hw646_1)), (World.cell?_alloc_lt _ _ _ (World.block_lt_of_cell? _ _ (((HB.out.cell (World.block_lt_of_cell? w _ hw647_0)).trans hw647_0)))).trans (((HB.out.cell (World.block_lt_of_cell? w _ hw647_0)).trans hw647_0)), (World.cell?_alloc_lt _ _ _ (World.block_lt_of_cell? _ _ (((HB.out.cell (World.block_lt_of_cell? w _ hw647_1)).trans hw647_1)))).trans (((HB.out.cell (World.block_lt_of_cell? w _ hw647_1)).trans hw647_1))⟩ (fun hHeld => ?_)
                      clear hK K
                      refine norm_ (a' := ?_) ?_ ?_
                      rotate_left
                      · show Act.put _ (some 60) _ = _
                        simp only [Act.put, List.setIfInBounds_toArray, List.set_cons_zero, List.set_cons_succ, i64_w, i32_w]
                        rfl
                      refine one_ (i := 13) (N := some 61) #[true, true, true, true, true, true, true, true, true, true, true, true, true, true, false] rfl rfl (one_of HT_.out (by kernel_rfl)) (by decide) (fun K hK => ?_)
                      refine Kd.R_append_step k31 (w0 := w) w.heap.size (by rfl) (.tmp 48) (.tmp 60) 25 31 (.agg #[(.int .u64 0), (.int .u64 0)]) 16 rfl Try.underlying25 info31 rfl (by decide) (by omega) u6 x6_2 (⟨(rd_T71 l1 x7_2).f0, (rd_T71 l1 x7_2).f1⟩ : S31) [.int .u64 ((rd_T71 l1 x7_2).f0), .int .u64 ((rd_T71 l1 x7_2).f1)] (fun _ => True) (fun _ => False) rfl rfl ?aP (fun _ hk => hk.elim) ?aF ?aO ?aB ?aS ?aL ?_
                      (case aP => exact k31_mkM _ _ _ (⟨(rd_T71 l1 x7_2).f0, (rd_T71 l1 x7_2).f1⟩ : S31))
                      (case aB => exact (bw HB))
                      (case aF => exact (fun _ _ => trivial))
                      (case aO => exact (by (with_reducible repeat (first | apply Kd.R_alloc | apply Kd.R_drewN | apply Kd.R_drew)); exact HO_6.out))
                      (case aS => exact (below_size (bw HB)))
                      (case aL => have := LMc20.out; omega)
                      intro v649 w30 ho hb hg hat
                      rw [← Ny648.out] at ho
                      have n0_ := Aside0.mk (blk_grown (g := gb634) (o := .cells #[.int .i64 a0_0, .int .u64 a0_1, .int .u64 a0_2, .int .u64 a0_3, .int .u64 a0_4] 24 (0, 0)) (bk BK634) hg (Kd.R_ne HO_6.out BK634.out (by decide)))
                      have n1_ := Aside0.mk (blk_grown (g := gb637) (o := .cells #[.int .u64 x638000_2, .int .u64 x638001_2, .int .u64 x638002_2] 40 (0, 0)) (bk BK637) hg (Kd.R_ne HO_6.out BK637.out (by decide)))
                      have n2_ := Aside0.mk (blk_grown (g := gb645) (o := .cells #[.int .u64 t640, .int .u64 t641, .int .u64 t642] 40 (0, 0)) (bk BK645) hg (Kd.R_ne HO_6.out BK645.out (by decide)))
                      have n3_ := Aside0.mk (hb)
                      have n4_ := Aside0.mk (ho)
                      clear BK634
                      clear BK637
                      clear BK645
                      clear HB
                      clear HO_6
                      have BK634 := n0_
                      have BK637 := n1_
                      have BK645 := n2_
                      have HB := n3_
                      have HO650 := n4_
                      clear n0_ n1_ n2_ n3_ n4_
                      clear ho hb hg hat
                      refine hK.out _ _ ⟨((HB.out.cell (World.block_lt_of_cell? w _ hw646_0)).trans hw646_0), ((HB.out.cell (World.block_lt_of_cell? w _ hw646_1)).trans hw646_1), ((HB.out.cell (World.block_lt_of_cell? w _ hw647_0)).trans hw647_0), ((HB.out.cell (World.block_lt_of_cell? w _ hw647_1)).trans hw647_1)⟩ (fun hHeld => ?_)
                      clear hK K
                      refine norm_ (a' := ?_) ?_ ?_
                      rotate_left
                      · show Act.put _ (some 61) _ = _
                        simp only [Act.put, List.setIfInBounds_toArray, List.set_cons_zero, List.set_cons_succ, i64_w, i32_w]
                        rfl
                      refine chain_ (fuel := 0) [(14, 0, some 6)] #[true, true, true, true, true, true, true, true, true, true, true, true, true, true, true] HT_.out HW_.out (by kernel_rfl) (fun _ _ _ _ _ h => h) (Or.inl (by decide)) rfl ?_
                      refine lkP ?_; refine .nil ?_
                      refine done_ (done_of HT_.out (by kernel_rfl)) ?_
                      have hnb31 := NB645_634.out
                      have hnc31 := NB634_645.out
                      have hnb32 := NB645_637.out
                      have hnc32 := NB637_645.out
                      obtain ⟨hcz33_0, hcz33_1, hcz33_2, hfz33_0, hfz33_1, hfz33_2⟩ := bc3 BK645
                      have hnb34 := NB637_634.out
                      have hnc34 := NB634_637.out
                      obtain ⟨hcz35_0, hcz35_1, hcz35_2, hfz35_0, hfz35_1, hfz35_2⟩ := bc3 BK637
                      try go_wp2
                      go_roundg k2
                      case measure => have := HJ4.out; have := HK2.out; omega
                      case rel => exact ⟨(y648), (wrap64 (x7_2 + 1)), (t640), (t641), (t642), rs, H', ⟨by have := HJ4.out; have := HK2.out; omega⟩, ⟨by (with_reducible repeat (first | apply Kd.R_alloc | apply Kd.R_drewN | apply Kd.R_drew)); exact Kd.R_mono (Kd.R_far (p := ⟨gb637, 2, none⟩) (Kd.R_far (p := ⟨gb637, 1, none⟩) (Kd.R_far (p := ⟨gb637, 0, none⟩) (Kd.R_types HO650.out BK637.out (by decide)) (fun _ hk => hk.2) (.int .u64 t640)) (fun _ hk => hk.2) (.int .u64 t641)) (fun _ hk => hk.2) (.int .u64 t642)) (fun _ hk => trivial)⟩, ⟨bk BK634⟩, ⟨bk BK637⟩, ⟨bw HB⟩⟩
                    · rw [if_neg c20] at H
                      exact absurd H (by simp)
                  · replace c19 := Bool.eq_false_iff.mpr c19
                    subst c19
                    have H1 : (turnstilelaw24_AuditAdmits.l0 k2 l1 x6_2 (wrap64 (x7_2 + 1)) a0_0 a0_1 a0_2 a0_3 a0_4 x638000_2 x638001_2 x638002_2) = some r := by rw [if_neg (show ¬ (false = true) by decide)] at H; exact H
                    clear H
                    have H := H1
                    clear H1
                    have H' := Aside0.mk H
                    clear H
                    try go_wp2
                    have n0_ := Aside0.mk (Kd.R_drew HO_6.out)
                    have n1_ := Aside0.mk (blk_drew BK634.out)
                    have n2_ := Aside0.mk (blk_drew BK637.out)
                    have n3_ := Aside0.mk (below_drew1 HB.out)
                    clear HO_6
                    clear BK634
                    clear BK637
                    clear HB
                    have HO_6 := n0_
                    have BK634 := n1_
                    have BK637 := n2_
                    have HB := n3_
                    clear n0_ n1_ n2_ n3_
                    have p638 : 0 ≤ (x7_2 : Int) := of_decide_eq_true (by first | (with_reducible assumption) | assumption)
                    have q638 : x7_2 < (l1.length : Int) := of_decide_eq_true (by first | (with_reducible assumption) | assumption)
                    obtain ⟨ad638, e638, hx638_0, hx638_1⟩ := at_T71 HR1.out x7_2 p638 q638
                    have hw638_1 := hx638_1
                    have hw638_0 := hx638_0
                    cases e638
                    replace hx638_0 := (HB.out.cell (World.block_lt_of_cell? w _ hx638_0)).trans hx638_0
                    replace hx638_1 := (HB.out.cell (World.block_lt_of_cell? w _ hx638_1)).trans hx638_1
                    replace p638 := eq_true p638
                    replace q638 := eq_true q638
                    have p639 : 0 ≤ (x7_2 : Int) := of_decide_eq_true (by first | (with_reducible assumption) | assumption)
                    have q639 : x7_2 < (l1.length : Int) := of_decide_eq_true (by first | (with_reducible assumption) | assumption)
                    obtain ⟨ad639, e639, hx639_0, hx639_1⟩ := at_T71 HR1.out x7_2 p639 q639
                    have hw639_1 := hx639_1
                    have hw639_0 := hx639_0
                    obtain rfl : ad638 = ad639 := (by injection e639)
                    replace hx639_0 := (HB.out.cell (World.block_lt_of_cell? w _ hx639_0)).trans hx639_0
                    replace hx639_1 := (HB.out.cell (World.block_lt_of_cell? w _ hx639_1)).trans hx639_1
                    replace p639 := eq_true p639
                    replace q639 := eq_true q639
                    refine start_ (n := 21) (S := fun w' => w'.cell? ⟨gb634, 0, none⟩ = some (.int .i64 a0_0) ∧ w'.cell? ⟨gb634, 1, none⟩ = some (.int .u64 a0_1) ∧ w'.cell? ⟨gb634, 2, none⟩ = some (.int .u64 a0_2) ∧ w'.cell? ⟨gb634, 3, none⟩ = some (.int .u64 a0_3) ∧ w'.cell? ⟨gb634, 4, none⟩ = some (.int .u64 a0_4) ∧ w'.cell? ⟨gb637, 0, none⟩ = some (.int .u64 x638000_2) ∧ w'.cell? ⟨gb637, 1, none⟩ = some (.int .u64 x638001_2) ∧ w'.cell? ⟨gb637, 2, none⟩ = some (.int .u64 x638002_2) ∧ w'.cell? (ad638.add ((x7_2).toNat * 2)) = some (.int .u64 ((rd_T71 l1 x7_2).f0)) ∧ w'.cell? ⟨(ad638.add ((x7_2).toNat * 2)).block, (ad638.add ((x7_2).toNat * 2)).off + 1, none⟩ = some (.int .u64 ((rd_T71 l1 x7_2).f1)) ∧ w'.cell? (ad638.add ((x7_2).toNat * 2)) = some (.int .u64 ((rd_T71 l1 x7_2).f0)) ∧ w'.cell? ⟨(ad638.add ((x7_2).toNat * 2)).block, (ad638.add ((x7_2).toNat * 2)).off + 1, none⟩ = some (.int .u64 ((rd_T71 l1 x7_2).f1))) (ds := []) #[false, false, false, false, false, false, false, false, false, false, false, false, false, false, false, false, false, false, false, false, false] (by kernel_rfl) rfl rfl ⟨(blk_cell BK634.out 0).trans rfl, (blk_cell BK634.out 1).trans rfl, (blk_cell BK634.out 2).trans rfl, (blk_cell BK634.out 3).trans rfl, (blk_cell BK634.out 4).trans rfl, (blk_cell BK637.out 0).trans rfl, (blk_cell BK637.out 1).trans rfl, (blk_cell BK637.out 2).trans rfl, ((HB.out.cell (World.block_lt_of_cell? w _ hw638_0)).trans hw638_0), ((HB.out.cell (World.block_lt_of_cell? w _ hw638_1)).trans hw638_1), ((HB.out.cell (World.block_lt_of_cell? w _ hw639_0)).trans hw639_0), ((HB.out.cell (World.block_lt_of_cell? w _ hw639_1)).trans hw639_1)⟩ (fun hHeld => ?_); refine with_tabW turnstilelaw24_AuditAdmits.tab10 turnstilelaw24_AuditAdmits.bits10 (fun HT_ HW_ => ?_)
                    generalize wr.drew = w36 at HO_6 BK634 BK637 HB hx638_0 hx638_1 hx639_0 hx639_1 hHeld ⊢
                    refine chain_ (fuel := 9) [(2, 0, some 33), (3, 0, some 34), (4, 0, some 35), (5, 0, some 36), (7, 0, some 38), (8, 0, some 39), (9, 0, some 40), (10, 0, some 41), (0, 1, some 31), (1, 1, some 32), (6, 1, some 37), (11, 1, some 42)] #[true, true, true, true, true, true, true, true, true, true, true, true, false, false, false, false, false, false, false, false, false] HT_.out HW_.out (by kernel_rfl) (fun _ _ _ _ _ h => h) (Or.inr hHeld) rfl ?_
                    (iterate 8 refine lkP ?_); (iterate 4 refine lkT ?_); refine .nil ?_
                    refine join_ (σ := Nat) 3 #[true, true, true, true, true, true, true, true, true, true, true, true, true, true, true, true, true, true, false, false, false] (fun s_ => [(43, .tuple #[.agg #[.int .u64 t640, .int .u64 t641, .int .u64 t642], .bool false, .int .u64 t644]), (8, .pointer (some ⟨s_, 0, none⟩)), (30, .tuple #[.agg #[.int .u64 t640, .int .u64 t641, .int .u64 t642], .bool false, .int .u64 t644]), (44, .agg #[.int .u64 t640, .int .u64 t641, .int .u64 t642]), (45, .bool false), (46, .int .u64 t644)]) (fun s_ w' => (w'.cell? ⟨gb634, 0, none⟩ = some (.int .i64 a0_0) ∧ w'.cell? ⟨gb634, 1, none⟩ = some (.int .u64 a0_1) ∧ w'.cell? ⟨gb634, 2, none⟩ = some (.int .u64 a0_2) ∧ w'.cell? ⟨gb634, 3, none⟩ = some (.int .u64 a0_3) ∧ w'.cell? ⟨gb634, 4, none⟩ = some (.int .u64 a0_4) ∧ w'.cell? ⟨gb637, 0, none⟩ = some (.int .u64 x638000_2) ∧ w'.cell? ⟨gb637, 1, none⟩ = some (.int .u64 x638001_2) ∧ w'.cell? ⟨gb637, 2, none⟩ = some (.int .u64 x638002_2) ∧ w'.cell? (ad638.add ((x7_2).toNat * 2)) = some (.int .u64 ((rd_T71 l1 x7_2).f0)) ∧ w'.cell? ⟨(ad638.add ((x7_2).toNat * 2)).block, (ad638.add ((x7_2).toNat * 2)).off + 1, none⟩ = some (.int .u64 ((rd_T71 l1 x7_2).f1)) ∧ w'.cell? (ad638.add ((x7_2).toNat * 2)) = some (.int .u64 ((rd_T71 l1 x7_2).f0)) ∧ w'.cell? ⟨(ad638.add ((x7_2).toNat * 2)).block, (ad638.add ((x7_2).toNat * 2)).off + 1, none⟩ = some (.int .u64 ((rd_T71 l1 x7_2).f1))) ∧ (Kd.R k31 31 w' w.heap.size (fun _ => True) u6 x6_2) ∧ (w'.heap[gb634]? = some (.cells #[.int .i64 a0_0, .int .u64 a0_1, .int .u64 a0_2, .int .u64 a0_3, .int .u64 a0_4] 24 (0, 0))) ∧ (w'.heap[gb637]? = some (.cells #[.int .u64 x638000_2, .int .u64 x638001_2, .int .u64 x638002_2] 40 (0, 0))) ∧ (w'.heap[s_]? = some (.cells #[.int .u64 0, .int .u64 0, .int .u64 0] 40 (0, 0))) ∧ (w.heap.size ≤ s_) ∧ (w.heap.size ≤ s_) ∧ (gb634 ≠ s_) ∧ (s_ ≠ gb634) ∧ (gb637 ≠ s_) ∧ (s_ ≠ gb637) ∧ (Below w.heap.size w w')) ?_ ?_
                    rotate_left
                    · intro hCont
                      refine two_ (i := 12) (j := 17) (Ni := some 43) (Nj := some 8) #[true, true, true, true, true, true, true, true, true, true, true, true, true, false, false, false, false, false, false, false, false] #[true, true, true, true, true, true, true, true, true, true, true, true, false, false, false, false, false, true, false, false, false] rfl rfl rfl rfl (two_of HT_.out (by kernel_rfl)) (by decide) (by decide) (fun K hK => ?_) (fun K hK => ?_)
                      · skip
                        refine ge Try.func25 #[.agg #[.int .i64 a0_0, .int .u64 a0_1, .int .u64 a0_2, .int .u64 a0_3, .int .u64 a0_4], .agg #[.int .u64 x638000_2, .int .u64 x638001_2, .int .u64 x638002_2], .int .u64 ((rd_T71 l1 x7_2).f0), .int .u64 ((rd_T71 l1 x7_2).f1)] ?_
                        with_reducible refine (policy_Admit.calls k2 a0_0 a0_1 a0_2 a0_3 a0_4 x638000_2 x638001_2 x638002_2 ((rd_T71 l1 x7_2).f0) ((rd_T71 l1 x7_2).f1) t640 t641 t642 false t644 _ A18.out).mono ?_
                        rintro e w37 ⟨rfl, hb⟩
                        refine ⟨_, rfl, ?_⟩
                        have n0_ := Aside0.mk (Kd.R_below (by (with_reducible repeat (first | apply Kd.R_alloc | apply Kd.R_drewN | apply Kd.R_drew)); exact HO_6.out) hb)
                        have n1_ := bb BK634 hb
                        have n2_ := bb BK637 hb
                        have n3_ := bs HB hb
                        clear HO_6
                        clear BK634
                        clear BK637
                        clear HB
                        have HO_6 := n0_
                        have BK634 := n1_
                        have BK637 := n2_
                        have HB := n3_
                        clear n0_ n1_ n2_ n3_
                        (try clear hb)
                        (try clear hb2)
                        (try clear hk)
                        (try clear hi)
                        refine hK.out _ _ ⟨(blk_cell BK634.out 0).trans rfl, (blk_cell BK634.out 1).trans rfl, (blk_cell BK634.out 2).trans rfl, (blk_cell BK634.out 3).trans rfl, (blk_cell BK634.out 4).trans rfl, (blk_cell BK637.out 0).trans rfl, (blk_cell BK637.out 1).trans rfl, (blk_cell BK637.out 2).trans rfl, ((HB.out.cell (World.block_lt_of_cell? w _ hw638_0)).trans hw638_0), ((HB.out.cell (World.block_lt_of_cell? w _ hw638_1)).trans hw638_1), ((HB.out.cell (World.block_lt_of_cell? w _ hw639_0)).trans hw639_0), ((HB.out.cell (World.block_lt_of_cell? w _ hw639_1)).trans hw639_1)⟩ (fun hHeld => ?_)
                        clear hK K
                        refine norm_ (a' := ?_) ?_ ?_
                        rotate_left
                        · show Act.put _ (some 43) _ = _
                          simp only [Act.put, List.setIfInBounds_toArray, List.set_cons_zero, List.set_cons_succ, i64_w, i32_w]
                          rfl
                        refine chain_ (fuel := 4) [(13, 0, some 30), (14, 0, some 44), (15, 0, some 45), (16, 0, some 46)] #[true, true, true, true, true, true, true, true, true, true, true, true, true, true, true, true, true, false, false, false, false] HT_.out HW_.out (by kernel_rfl) (fun _ _ _ _ _ h => h) (Or.inl (by decide)) rfl ?_
                        (iterate 4 refine lkP ?_); refine .nil ?_
                        refine one_ (i := 17) (N := some 8) #[true, true, true, true, true, true, true, true, true, true, true, true, true, true, true, true, true, true, false, false, false] rfl rfl (one_of HT_.out (by kernel_rfl)) (by decide) (fun K hK => ?_)
                        refine box_step ?hg (N := 8) ?hd (cs := #[.int .u64 0, .int .u64 0, .int .u64 0]) (t := 40) ?hr ?_; (case hd => rfl); (case hg => rfl); (case hr => first | (go_simp; done) | (go_simp; rfl))
                        intro gb645 hg w38 hbox hb
                        have n0_ := Aside0.mk (Kd.R_below (by (with_reducible repeat (first | apply Kd.R_alloc | apply Kd.R_drewN | apply Kd.R_drew)); exact HO_6.out) hb)
                        have n1_ := bb BK634 hb
                        have n2_ := bb BK637 hb
                        have n3_ := bs HB hb
                        have n4_ := Aside0.mk (hbox)
                        have n5_ := sz HB hg
                        have n6_ := sz HB hg
                        have n7_ := nl BK634 hg
                        have n8_ := nr BK634 hg
                        have n9_ := nl BK637 hg
                        have n10_ := nr BK637 hg
                        clear HO_6
                        clear BK634
                        clear BK637
                        clear HB
                        have HO_6 := n0_
                        have BK634 := n1_
                        have BK637 := n2_
                        have HB := n3_
                        have BK645 := n4_
                        have GW645 := n5_
                        have GE645 := n6_
                        have NB634_645 := n7_
                        have NB645_634 := n8_
                        have NB637_645 := n9_
                        have NB645_637 := n10_
                        clear n0_ n1_ n2_ n3_ n4_ n5_ n6_ n7_ n8_ n9_ n10_
                        clear hb hbox hg
                        refine hK.out _ _ ⟨(blk_cell BK634.out 0).trans rfl, (blk_cell BK634.out 1).trans rfl, (blk_cell BK634.out 2).trans rfl, (blk_cell BK634.out 3).trans rfl, (blk_cell BK634.out 4).trans rfl, (blk_cell BK637.out 0).trans rfl, (blk_cell BK637.out 1).trans rfl, (blk_cell BK637.out 2).trans rfl, ((HB.out.cell (World.block_lt_of_cell? w _ hw638_0)).trans hw638_0), ((HB.out.cell (World.block_lt_of_cell? w _ hw638_1)).trans hw638_1), ((HB.out.cell (World.block_lt_of_cell? w _ hw639_0)).trans hw639_0), ((HB.out.cell (World.block_lt_of_cell? w _ hw639_1)).trans hw639_1)⟩ (fun hHeld => ?_)
                        clear hK K
                        refine norm_ (a' := ?_) ?_ ?_
                        rotate_left
                        · show Act.put _ (some 8) _ = _
                          simp only [Act.put, List.setIfInBounds_toArray, List.set_cons_zero, List.set_cons_succ, i64_w, i32_w]
                          rfl
                        exact norm_ (by simp only [putAll, Act.put, List.setIfInBounds_toArray, List.set_cons_zero, List.set_cons_succ]) (hCont (gb645) _ ⟨hHeld, (by (with_reducible repeat (first | apply Kd.R_alloc | apply Kd.R_drewN | apply Kd.R_drew)); exact HO_6.out), (bk BK634), (bk BK637), (bk BK645), GW645.out, GE645.out, NB634_645.out, NB645_634.out, NB637_645.out, NB645_637.out, (bw HB)⟩)
                      · skip
                        refine box_step ?hg (N := 8) ?hd (cs := #[.int .u64 0, .int .u64 0, .int .u64 0]) (t := 40) ?hr ?_; (case hd => rfl); (case hg => rfl); (case hr => first | (go_simp; done) | (go_simp; rfl))
                        intro gb645 hg w37 hbox hb
                        have n0_ := Aside0.mk (Kd.R_below (by (with_reducible repeat (first | apply Kd.R_alloc | apply Kd.R_drewN | apply Kd.R_drew)); exact HO_6.out) hb)
                        have n1_ := bb BK634 hb
                        have n2_ := bb BK637 hb
                        have n3_ := bs HB hb
                        have n4_ := Aside0.mk (hbox)
                        have n5_ := sz HB hg
                        have n6_ := sz HB hg
                        have n7_ := nl BK634 hg
                        have n8_ := nr BK634 hg
                        have n9_ := nl BK637 hg
                        have n10_ := nr BK637 hg
                        clear HO_6
                        clear BK634
                        clear BK637
                        clear HB
                        have HO_6 := n0_
                        have BK634 := n1_
                        have BK637 := n2_
                        have HB := n3_
                        have BK645 := n4_
                        have GW645 := n5_
                        have GE645 := n6_
                        have NB634_645 := n7_
                        have NB645_634 := n8_
                        have NB637_645 := n9_
                        have NB645_637 := n10_
                        clear n0_ n1_ n2_ n3_ n4_ n5_ n6_ n7_ n8_ n9_ n10_
                        clear hb hbox hg
                        refine hK.out _ _ ⟨(blk_cell BK634.out 0).trans rfl, (blk_cell BK634.out 1).trans rfl, (blk_cell BK634.out 2).trans rfl, (blk_cell BK634.out 3).trans rfl, (blk_cell BK634.out 4).trans rfl, (blk_cell BK637.out 0).trans rfl, (blk_cell BK637.out 1).trans rfl, (blk_cell BK637.out 2).trans rfl, ((HB.out.cell (World.block_lt_of_cell? w _ hw638_0)).trans hw638_0), ((HB.out.cell (World.block_lt_of_cell? w _ hw638_1)).trans hw638_1), ((HB.out.cell (World.block_lt_of_cell? w _ hw639_0)).trans hw639_0), ((HB.out.cell (World.block_lt_of_cell? w _ hw639_1)).trans hw639_1)⟩ (fun hHeld => ?_)
                        clear hK K
                        refine norm_ (a' := ?_) ?_ ?_
                        rotate_left
                        · show Act.put _ (some 8) _ = _
                          simp only [Act.put, List.setIfInBounds_toArray, List.set_cons_zero, List.set_cons_succ, i64_w, i32_w]
                          rfl
                        refine one_ (i := 12) (N := some 43) #[true, true, true, true, true, true, true, true, true, true, true, true, true, false, false, false, false, true, false, false, false] rfl rfl (one_of HT_.out (by kernel_rfl)) (by decide) (fun K hK => ?_)
                        refine ge Try.func25 #[.agg #[.int .i64 a0_0, .int .u64 a0_1, .int .u64 a0_2, .int .u64 a0_3, .int .u64 a0_4], .agg #[.int .u64 x638000_2, .int .u64 x638001_2, .int .u64 x638002_2], .int .u64 ((rd_T71 l1 x7_2).f0), .int .u64 ((rd_T71 l1 x7_2).f1)] ?_
                        with_reducible refine (policy_Admit.calls k2 a0_0 a0_1 a0_2 a0_3 a0_4 x638000_2 x638001_2 x638002_2 ((rd_T71 l1 x7_2).f0) ((rd_T71 l1 x7_2).f1) t640 t641 t642 false t644 _ A18.out).mono ?_
                        rintro e w38 ⟨rfl, hb⟩
                        refine ⟨_, rfl, ?_⟩
                        have n0_ := Aside0.mk (Kd.R_below (by (with_reducible repeat (first | apply Kd.R_alloc | apply Kd.R_drewN | apply Kd.R_drew)); exact HO_6.out) hb)
                        have n1_ := bb BK634 hb
                        have n2_ := bb BK637 hb
                        have n3_ := bb BK645 hb
                        have n4_ := bs HB hb
                        clear HO_6
                        clear BK634
                        clear BK637
                        clear BK645
                        clear HB
                        have HO_6 := n0_
                        have BK634 := n1_
                        have BK637 := n2_
                        have BK645 := n3_
                        have HB := n4_
                        clear n0_ n1_ n2_ n3_ n4_
                        (try clear hb)
                        (try clear hb2)
                        (try clear hk)
                        (try clear hi)
                        refine hK.out _ _ ⟨(blk_cell BK634.out 0).trans rfl, (blk_cell BK634.out 1).trans rfl, (blk_cell BK634.out 2).trans rfl, (blk_cell BK634.out 3).trans rfl, (blk_cell BK634.out 4).trans rfl, (blk_cell BK637.out 0).trans rfl, (blk_cell BK637.out 1).trans rfl, (blk_cell BK637.out 2).trans rfl, ((HB.out.cell (World.block_lt_of_cell? w _ hw638_0)).trans hw638_0), ((HB.out.cell (World.block_lt_of_cell? w _ hw638_1)).trans hw638_1), ((HB.out.cell (World.block_lt_of_cell? w _ hw639_0)).trans hw639_0), ((HB.out.cell (World.block_lt_of_cell? w _ hw639_1)).trans hw639_1)⟩ (fun hHeld => ?_)
                        clear hK K
                        refine norm_ (a' := ?_) ?_ ?_
                        rotate_left
                        · show Act.put _ (some 43) _ = _
                          simp only [Act.put, List.setIfInBounds_toArray, List.set_cons_zero, List.set_cons_succ, i64_w, i32_w]
                          rfl
                        refine chain_ (fuel := 3) [(13, 0, some 30), (14, 0, some 44), (15, 0, some 45), (16, 0, some 46)] #[true, true, true, true, true, true, true, true, true, true, true, true, true, true, true, true, true, true, false, false, false] HT_.out HW_.out (by kernel_rfl) (fun _ _ _ _ _ h => h) (Or.inl (by decide)) rfl ?_
                        (iterate 4 refine lkP ?_); refine .nil ?_
                        exact norm_ (by simp only [putAll, Act.put, List.setIfInBounds_toArray, List.set_cons_zero, List.set_cons_succ]) (hCont (gb645) _ ⟨hHeld, (by (with_reducible repeat (first | apply Kd.R_alloc | apply Kd.R_drewN | apply Kd.R_drew)); exact HO_6.out), (bk BK634), (bk BK637), (bk BK645), GW645.out, GE645.out, NB634_645.out, NB645_634.out, NB637_645.out, NB645_637.out, (bw HB)⟩)
                    rintro gb645 w39 ⟨hS_, h0_, h1_, h2_, h3_, h4_, h5_, h6_, h7_, h8_, h9_, h10_⟩
                    have n0_ : Aside0 (Kd.R k31 31 w39 w.heap.size (fun _ => True) u6 x6_2) := ⟨h0_⟩
                    have n1_ : Aside0 (w39.heap[gb634]? = some (.cells #[.int .i64 a0_0, .int .u64 a0_1, .int .u64 a0_2, .int .u64 a0_3, .int .u64 a0_4] 24 (0, 0))) := ⟨h1_⟩
                    have n2_ : Aside0 (w39.heap[gb637]? = some (.cells #[.int .u64 x638000_2, .int .u64 x638001_2, .int .u64 x638002_2] 40 (0, 0))) := ⟨h2_⟩
                    have n3_ : Aside0 (w39.heap[gb645]? = some (.cells #[.int .u64 0, .int .u64 0, .int .u64 0] 40 (0, 0))) := ⟨h3_⟩
                    have n4_ : Aside0 (w.heap.size ≤ gb645) := ⟨h4_⟩
                    have n5_ : Aside0 (w.heap.size ≤ gb645) := ⟨h5_⟩
                    have n6_ : Aside0 (gb634 ≠ gb645) := ⟨h6_⟩
                    have n7_ : Aside0 (gb645 ≠ gb634) := ⟨h7_⟩
                    have n8_ : Aside0 (gb637 ≠ gb645) := ⟨h8_⟩
                    have n9_ : Aside0 (gb645 ≠ gb637) := ⟨h9_⟩
                    have n10_ : Aside0 (Below w.heap.size w w39) := ⟨h10_⟩
                    clear HO_6
                    clear BK634
                    clear BK637
                    clear HB
                    clear h0_ h1_ h2_ h3_ h4_ h5_ h6_ h7_ h8_ h9_ h10_
                    have HO_6 := n0_
                    have BK634 := n1_
                    have BK637 := n2_
                    have BK645 := n3_
                    have GW645 := n4_
                    have GE645 := n5_
                    have NB634_645 := n6_
                    have NB645_634 := n7_
                    have NB637_645 := n8_
                    have NB645_637 := n9_
                    have HB := n10_
                    clear n0_ n1_ n2_ n3_ n4_ n5_ n6_ n7_ n8_ n9_ n10_
                    have hHeld : w39.cell? ⟨gb634, 0, none⟩ = some (.int .i64 a0_0) ∧ w39.cell? ⟨gb634, 1, none⟩ = some (.int .u64 a0_1) ∧ w39.cell? ⟨gb634, 2, none⟩ = some (.int .u64 a0_2) ∧ w39.cell? ⟨gb634, 3, none⟩ = some (.int .u64 a0_3) ∧ w39.cell? ⟨gb634, 4, none⟩ = some (.int .u64 a0_4) ∧ w39.cell? ⟨gb637, 0, none⟩ = some (.int .u64 x638000_2) ∧ w39.cell? ⟨gb637, 1, none⟩ = some (.int .u64 x638001_2) ∧ w39.cell? ⟨gb637, 2, none⟩ = some (.int .u64 x638002_2) ∧ w39.cell? (ad638.add ((x7_2).toNat * 2)) = some (.int .u64 ((rd_T71 l1 x7_2).f0)) ∧ w39.cell? ⟨(ad638.add ((x7_2).toNat * 2)).block, (ad638.add ((x7_2).toNat * 2)).off + 1, none⟩ = some (.int .u64 ((rd_T71 l1 x7_2).f1)) ∧ w39.cell? (ad638.add ((x7_2).toNat * 2)) = some (.int .u64 ((rd_T71 l1 x7_2).f0)) ∧ w39.cell? ⟨(ad638.add ((x7_2).toNat * 2)).block, (ad638.add ((x7_2).toNat * 2)).off + 1, none⟩ = some (.int .u64 ((rd_T71 l1 x7_2).f1)) := hS_
                    refine norm_ (a' := ?_) ?_ ?_
                    rotate_left
                    · simp only [putAll, Act.put, List.setIfInBounds_toArray, List.set_cons_zero, List.set_cons_succ]
                      rfl
                    refine one_ (i := 18) (N := none) #[true, true, true, true, true, true, true, true, true, true, true, true, true, true, true, true, true, true, true, false, false] rfl rfl (one_of HT_.out (by kernel_rfl)) (by decide) (fun K hK => ?_)
                    have hs40 : w39.cell? ⟨gb645, 0, none⟩ = some (.int .u64 0) := (blk_cell BK645.out 0).trans rfl
                    have hfs40 := blk_frozen BK645.out 0
                    have hns40_0 := NB634_645.out
                    have hns40_1 := NB637_645.out
                    have hms40_0 := NB645_634.out
                    have hms40_1 := NB645_637.out
                    have hs41 : w39.cell? ⟨gb645, 1, none⟩ = some (.int .u64 0) := (blk_cell BK645.out 1).trans rfl
                    have hfs41 := blk_frozen BK645.out 1
                    have hns41_0 := NB634_645.out
                    have hns41_1 := NB637_645.out
                    have hms41_0 := NB645_634.out
                    have hms41_1 := NB645_637.out
                    have hs42 : w39.cell? ⟨gb645, 2, none⟩ = some (.int .u64 0) := (blk_cell BK645.out 2).trans rfl
                    have hfs42 := blk_frozen BK645.out 2
                    have hns42_0 := NB634_645.out
                    have hns42_1 := NB637_645.out
                    have hms42_0 := NB645_634.out
                    have hms42_1 := NB645_637.out
                    refine skip_ (w1 := ?_) (by rfl) rfl ?_ ?_
                    rotate_left
                    · go_simp
                      rfl
                    refine hK.out _ _ ⟨((cell_far (p := ⟨gb645, _, none⟩) NB634_645.out _).trans (((cell_far (p := ⟨gb645, _, none⟩) NB634_645.out _).trans (((cell_far (p := ⟨gb645, _, none⟩) NB634_645.out _).trans (hHeld.1)))))), ((cell_far (p := ⟨gb645, _, none⟩) NB634_645.out _).trans (((cell_far (p := ⟨gb645, _, none⟩) NB634_645.out _).trans (((cell_far (p := ⟨gb645, _, none⟩) NB634_645.out _).trans (hHeld.2.1)))))), ((cell_far (p := ⟨gb645, _, none⟩) NB634_645.out _).trans (((cell_far (p := ⟨gb645, _, none⟩) NB634_645.out _).trans (((cell_far (p := ⟨gb645, _, none⟩) NB634_645.out _).trans (hHeld.2.2.1)))))), ((cell_far (p := ⟨gb645, _, none⟩) NB634_645.out _).trans (((cell_far (p := ⟨gb645, _, none⟩) NB634_645.out _).trans (((cell_far (p := ⟨gb645, _, none⟩) NB634_645.out _).trans (hHeld.2.2.2.1)))))), ((cell_far (p := ⟨gb645, _, none⟩) NB634_645.out _).trans (((cell_far (p := ⟨gb645, _, none⟩) NB634_645.out _).trans (((cell_far (p := ⟨gb645, _, none⟩) NB634_645.out _).trans (hHeld.2.2.2.2.1)))))), ((cell_far (p := ⟨gb645, _, none⟩) NB637_645.out _).trans (((cell_far (p := ⟨gb645, _, none⟩) NB637_645.out _).trans (((cell_far (p := ⟨gb645, _, none⟩) NB637_645.out _).trans (hHeld.2.2.2.2.2.1)))))), ((cell_far (p := ⟨gb645, _, none⟩) NB637_645.out _).trans (((cell_far (p := ⟨gb645, _, none⟩) NB637_645.out _).trans (((cell_far (p := ⟨gb645, _, none⟩) NB637_645.out _).trans (hHeld.2.2.2.2.2.2.1)))))), ((cell_far (p := ⟨gb645, _, none⟩) NB637_645.out _).trans (((cell_far (p := ⟨gb645, _, none⟩) NB637_645.out _).trans (((cell_far (p := ⟨gb645, _, none⟩) NB637_645.out _).trans (hHeld.2.2.2.2.2.2.2.1)))))), ((cell_far (p := ⟨gb645, _, none⟩) (by first | exact Nat.ne_of_lt (Nat.lt_of_lt_of_le (by have := World.block_lt_of_cell? _ _ hw638_0; first | rwa [add_block] at this | exact this) GW645.out) | (rw [add_block]; exact Nat.ne_of_lt (Nat.lt_of_lt_of_le (by have := World.block_lt_of_cell? _ _ hw638_0; first | rwa [add_block] at this | exact this) GW645.out)) | (show (Addr.add _ _).block ≠ _; rw [add_block]; exact Nat.ne_of_lt (Nat.lt_of_lt_of_le (by have := World.block_lt_of_cell? _ _ hw638_0; first | rwa [add_block] at this | exact this) GW645.out)) | (dsimp only; exact Nat.ne_of_lt (Nat.lt_of_lt_of_le (by have := World.block_lt_of_cell? _ _ hw638_0; first | rwa [add_block] at this | exact this) GW645.out))) _).trans (((cell_far (p := ⟨gb645, _, none⟩) (by first | exact Nat.ne_of_lt (Nat.lt_of_lt_of_le (by have := World.block_lt_of_cell? _ _ hw638_0; first | rwa [add_block] at this | exact this) GW645.out) | (rw [add_block]; exact Nat.ne_of_lt (Nat.lt_of_lt_of_le (by have := World.block_lt_of_cell? _ _ hw638_0; first | rwa [add_block] at this | exact this) GW645.out)) | (show (Addr.add _ _).block ≠ _; rw [add_block]; exact Nat.ne_of_lt (Nat.lt_of_lt_of_le (by have := World.block_lt_of_cell? _ _ hw638_0; first | rwa [add_block] at this | exact this) GW645.out)) | (dsimp only; exact Nat.ne_of_lt (Nat.lt_of_lt_of_le (by have := World.block_lt_of_cell? _ _ hw638_0; first | rwa [add_block] at this | exact this) GW645.out))) _).trans (((cell_far (p := ⟨gb645, _, none⟩) (by first | exact Nat.ne_of_lt (Nat.lt_of_lt_of_le (by have := World.block_lt_of_cell? _ _ hw638_0; first | rwa [add_block] at this | exact this) GW645.out) | (rw [add_block]; exact Nat.ne_of_lt (Nat.lt_of_lt_of_le (by have := World.block_lt_of_cell? _ _ hw638_0; first | rwa [add_block] at this | exact this) GW645.out)) | (show (Addr.add _ _).block ≠ _; rw [add_block]; exact Nat.ne_of_lt (Nat.lt_of_lt_of_le (by have := World.block_lt_of_cell? _ _ hw638_0; first | rwa [add_block] at this | exact this) GW645.out)) | (dsimp only; exact Nat.ne_of_lt (Nat.lt_of_lt_of_le (by have := World.block_lt_of_cell? _ _ hw638_0; first | rwa [add_block] at this | exact this) GW645.out))) _).trans (hHeld.2.2.2.2.2.2.2.2.1)))))), ((cell_far (p := ⟨gb645, _, none⟩) (by first | exact Nat.ne_of_lt (Nat.lt_of_lt_of_le (by have := World.block_lt_of_cell? _ _ hw638_1; first | rwa [add_block] at this | exact this) GW645.out) | (rw [add_block]; exact Nat.ne_of_lt (Nat.lt_of_lt_of_le (by have := World.block_lt_of_cell? _ _ hw638_1; first | rwa [add_block] at this | exact this) GW645.out)) | (show (Addr.add _ _).block ≠ _; rw [add_block]; exact Nat.ne_of_lt (Nat.lt_of_lt_of_le (by have := World.block_lt_of_cell? _ _ hw638_1; first | rwa [add_block] at this | exact this) GW645.out)) | (dsimp only; exact Nat.ne_of_lt (Nat.lt_of_lt_of_le (by have := World.block_lt_of_cell? _ _ hw638_1; first | rwa [add_block] at this | exact this) GW645.out))) _).trans (((cell_far (p := ⟨gb645, _, none⟩) (by first | exact Nat.ne_of_lt (Nat.lt_of_lt_of_le (by have := World.block_lt_of_cell? _ _ hw638_1; first | rwa [add_block] at this | exact this) GW645.out) | (rw [add_block]; exact Nat.ne_of_lt (Nat.lt_of_lt_of_le (by have := World.block_lt_of_cell? _ _ hw638_1; first | rwa [add_block] at this | exact this) GW645.out)) | (show (Addr.add _ _).block ≠ _; rw [add_block]; exact Nat.ne_of_lt (Nat.lt_of_lt_of_le (by have := World.block_lt_of_cell? _ _ hw638_1; first | rwa [add_block] at this | exact this) GW645.out)) | (dsimp only; exact Nat.ne_of_lt (Nat.lt_of_lt_of_le (by have := World.block_lt_of_cell? _ _ hw638_1; first | rwa [add_block] at this | exact this) GW645.out))) _).trans (((cell_far (p := ⟨gb645, _, none⟩) (by first | exact Nat.ne_of_lt (Nat.lt_of_lt_of_le (by have := World.block_lt_of_cell? _ _ hw638_1; first | rwa [add_block] at this | exact this) GW645.out) | (rw [add_block]; exact Nat.ne_of_lt (Nat.lt_of_lt_of_le (by have := World.block_lt_of_cell? _ _ hw638_1; first | rwa [add_block] at this | exact this) GW645.out)) | (show (Addr.add _ _).block ≠ _; rw [add_block]; exact Nat.ne_of_lt (Nat.lt_of_lt_of_le (by have := World.block_lt_of_cell? _ _ hw638_1; first | rwa [add_block] at this | exact this) GW645.out)) | (dsimp only; exact Nat.ne_of_lt (Nat.lt_of_lt_of_le (by have := World.block_lt_of_cell? _ _ hw638_1; first | rwa [add_block] at this | exact this) GW645.out))) _).trans (hHeld.2.2.2.2.2.2.2.2.2.1)))))), ((cell_far (p := ⟨gb645, _, none⟩) (by first | exact Nat.ne_of_lt (Nat.lt_of_lt_of_le (by have := World.block_lt_of_cell? _ _ hw639_0; first | rwa [add_block] at this | exact this) GW645.out) | (rw [add_block]; exact Nat.ne_of_lt (Nat.lt_of_lt_of_le (by have := World.block_lt_of_cell? _ _ hw639_0; first | rwa [add_block] at this | exact this) GW645.out)) | (show (Addr.add _ _).block ≠ _; rw [add_block]; exact Nat.ne_of_lt (Nat.lt_of_lt_of_le (by have := World.block_lt_of_cell? _ _ hw639_0; first | rwa [add_block] at this | exact this) GW645.out)) | (dsimp only; exact Nat.ne_of_lt (Nat.lt_of_lt_of_le (by have := World.block_lt_of_cell? _ _ hw639_0; first | rwa [add_block] at this | exact this) GW645.out))) _).trans (((cell_far (p := ⟨gb645, _, none⟩) (by first | exact Nat.ne_of_lt (Nat.lt_of_lt_of_le (by have := World.block_lt_of_cell? _ _ hw639_0; first | rwa [add_block] at this | exact this) GW645.out) | (rw [add_block]; exact Nat.ne_of_lt (Nat.lt_of_lt_of_le (by have := World.block_lt_of_cell? _ _ hw639_0; first | rwa [add_block] at this | exact this) GW645.out)) | (show (Addr.add _ _).block ≠ _; rw [add_block]; exact Nat.ne_of_lt (Nat.lt_of_lt_of_le (by have := World.block_lt_of_cell? _ _ hw639_0; first | rwa [add_block] at this | exact this) GW645.out)) | (dsimp only; exact Nat.ne_of_lt (Nat.lt_of_lt_of_le (by have := World.block_lt_of_cell? _ _ hw639_0; first | rwa [add_block] at this | exact this) GW645.out))) _).trans (((cell_far (p := ⟨gb645, _, none⟩) (by first | exact Nat.ne_of_lt (Nat.lt_of_lt_of_le (by have := World.block_lt_of_cell? _ _ hw639_0; first | rwa [add_block] at this | exact this) GW645.out) | (rw [add_block]; exact Nat.ne_of_lt (Nat.lt_of_lt_of_le (by have := World.block_lt_of_cell? _ _ hw639_0; first | rwa [add_block] at this | exact this) GW645.out)) | (show (Addr.add _ _).block ≠ _; rw [add_block]; exact Nat.ne_of_lt (Nat.lt_of_lt_of_le (by have := World.block_lt_of_cell? _ _ hw639_0; first | rwa [add_block] at this | exact this) GW645.out)) | (dsimp only; exact Nat.ne_of_lt (Nat.lt_of_lt_of_le (by have := World.block_lt_of_cell? _ _ hw639_0; first | rwa [add_block] at this | exact this) GW645.out))) _).trans (hHeld.2.2.2.2.2.2.2.2.2.2.1)))))), ((cell_far (p := ⟨gb645, _, none⟩) (by first | exact Nat.ne_of_lt (Nat.lt_of_lt_of_le (by have := World.block_lt_of_cell? _ _ hw639_1; first | rwa [add_block] at this | exact this) GW645.out) | (rw [add_block]; exact Nat.ne_of_lt (Nat.lt_of_lt_of_le (by have := World.block_lt_of_cell? _ _ hw639_1; first | rwa [add_block] at this | exact this) GW645.out)) | (show (Addr.add _ _).block ≠ _; rw [add_block]; exact Nat.ne_of_lt (Nat.lt_of_lt_of_le (by have := World.block_lt_of_cell? _ _ hw639_1; first | rwa [add_block] at this | exact this) GW645.out)) | (dsimp only; exact Nat.ne_of_lt (Nat.lt_of_lt_of_le (by have := World.block_lt_of_cell? _ _ hw639_1; first | rwa [add_block] at this | exact this) GW645.out))) _).trans (((cell_far (p := ⟨gb645, _, none⟩) (by first | exact Nat.ne_of_lt (Nat.lt_of_lt_of_le (by have := World.block_lt_of_cell? _ _ hw639_1; first | rwa [add_block] at this | exact this) GW645.out) | (rw [add_block]; exact Nat.ne_of_lt (Nat.lt_of_lt_of_le (by have := World.block_lt_of_cell? _ _ hw639_1; first | rwa [add_block] at this | exact this) GW645.out)) | (show (Addr.add _ _).block ≠ _; rw [add_block]; exact Nat.ne_of_lt (Nat.lt_of_lt_of_le (by have := World.block_lt_of_cell? _ _ hw639_1; first | rwa [add_block] at this | exact this) GW645.out)) | (dsimp only; exact Nat.ne_of_lt (Nat.lt_of_lt_of_le (by have := World.block_lt_of_cell? _ _ hw639_1; first | rwa [add_block] at this | exact this) GW645.out))) _).trans (((cell_far (p := ⟨gb645, _, none⟩) (by first | exact Nat.ne_of_lt (Nat.lt_of_lt_of_le (by have := World.block_lt_of_cell? _ _ hw639_1; first | rwa [add_block] at this | exact this) GW645.out) | (rw [add_block]; exact Nat.ne_of_lt (Nat.lt_of_lt_of_le (by have := World.block_lt_of_cell? _ _ hw639_1; first | rwa [add_block] at this | exact this) GW645.out)) | (show (Addr.add _ _).block ≠ _; rw [add_block]; exact Nat.ne_of_lt (Nat.lt_of_lt_of_le (by have := World.block_lt_of_cell? _ _ hw639_1; first | rwa [add_block] at this | exact this) GW645.out)) | (dsimp only; exact Nat.ne_of_lt (Nat.lt_of_lt_of_le (by have := World.block_lt_of_cell? _ _ hw639_1; first | rwa [add_block] at this | exact this) GW645.out))) _).trans (hHeld.2.2.2.2.2.2.2.2.2.2.2))))))⟩ (fun hHeld => ?_)
                    clear hK K
                    refine chain_ (fuel := 0) [(19, 0, some 9), (20, 0, some 10)] #[true, true, true, true, true, true, true, true, true, true, true, true, true, true, true, true, true, true, true, true, true] HT_.out HW_.out (by kernel_rfl) (fun _ _ _ _ _ h => h) (Or.inl (by decide)) rfl ?_
                    (iterate 2 refine lkP ?_); refine .nil ?_
                    refine done_ (done_of HT_.out (by kernel_rfl)) ?_
                    try go_wp2
                    go_roundg k2
                    case measure => have := HJ4.out; have := HK2.out; omega
                    case rel => exact ⟨(x6_2), (wrap64 (x7_2 + 1)), (x638000_2), (x638001_2), (x638002_2), rs, H', ⟨by have := HJ4.out; have := HK2.out; omega⟩, ⟨by (with_reducible repeat (first | apply Kd.R_alloc | apply Kd.R_drewN | apply Kd.R_drew)); exact Kd.R_mono (Kd.R_far (p := ⟨gb645, 2, none⟩) (Kd.R_far (p := ⟨gb645, 1, none⟩) (Kd.R_far (p := ⟨gb645, 0, none⟩) (Kd.R_types HO_6.out BK645.out (by decide)) (fun _ hk => hk.2) (.int .u64 t640)) (fun _ hk => hk.2) (.int .u64 t641)) (fun _ hk => hk.2) (.int .u64 t642)) (fun _ hk => trivial)⟩, ⟨bk BK634⟩, ⟨bk BK637⟩, ⟨bw HB⟩⟩
                · rw [if_neg c17] at H
                  exact absurd H (by simp)
              · rw [if_neg c16] at H
                have c16b0 : decide (x7_2 < (l1.length : Int)) = false := decide_eq_false c16
                clear c16
                replace H := Option.bind_eq_some_iff.mp H
                obtain ⟨⟨t651, t652, t653, t654⟩, A430, H⟩ := H
                replace H : ((audit_Conforms.f k2 a0_0 a0_1 a0_2 a0_3 a0_4 x6_2).bind fun t656 => (if t656 = true then (if t654 = true then (some (t651 == x638000_2 && (t652 == x638001_2 && (t653 == x638002_2)))) else (some false)) else (some false))) = some r := H
                have A43 := Aside0.mk A430
                clear A430
                replace H := Option.bind_eq_some_iff.mp H
                obtain ⟨t656, A440, H⟩ := H
                replace H : (if t656 = true then (if t654 = true then (some (t651 == x638000_2 && (t652 == x638001_2 && (t653 == x638002_2)))) else (some false)) else (some false)) = some r := H
                have A44 := Aside0.mk A440
                clear A440
                by_cases c45 : t656 = true
                · subst c45
                  have H1 : (if t654 = true then (some (t651 == x638000_2 && (t652 == x638001_2 && (t653 == x638002_2)))) else (some false)) = some r := by rw [if_pos rfl] at H; exact H
                  clear H
                  have H := H1
                  clear H1
                  by_cases c46 : t654 = true
                  · subst c46
                    have H1 : (some (t651 == x638000_2 && (t652 == x638001_2 && (t653 == x638002_2)))) = some r := by rw [if_pos rfl] at H; exact H
                    clear H
                    have H := H1
                    clear H1
                    obtain rfl := Option.some.inj H
                    have hnb47 := NB634_637.out
                    have hnc47 := NB637_634.out
                    obtain ⟨hcz48_0, hcz48_1, hcz48_2, hcz48_3, hcz48_4, hfz48_0, hfz48_1, hfz48_2, hfz48_3, hfz48_4⟩ := bc5 BK634
                    obtain ⟨Ao49, co49, eo49⟩ := Kd.R_slice HO_6.out
                    subst eo49
                    go_wp2_with (first | ((with_reducible refine gate_callee (f := 17) rfl ?_); refine gl (some 66) Try.func17 #[.agg #[.int .i64 a0_0, .int .u64 a0_1, .int .u64 a0_2, .int .u64 a0_3, .int .u64 a0_4], .slice Ao49 x6_2.length co49] ?_; (with_reducible refine (audit_Level.calls k2 a0_0 a0_1 a0_2 a0_3 a0_4 _ _ x6_2 t651 t652 t653 true _ ?side1 ?side2 A43.out).mono ?_); (case side1 => repeat (first | exact (Kd.R_reads' HO_6.out).2.2 | (with_reducible refine Kd.C_alloc ?_ _) | (with_reducible refine Kd.C_drewN ?_ _) | (with_reducible refine Kd.C_drew ?_))); (case side2 => exact (Kd.R_reads' HO_6.out).2.1); rintro e w50 ⟨rfl, hb⟩; refine ⟨_, rfl, ?_⟩; have n0_ := Aside0.mk (Kd.R_below (by (with_reducible repeat (first | apply Kd.R_alloc | apply Kd.R_drewN | apply Kd.R_drew)); exact HO_6.out) hb); have n1_ := bb BK634 hb; have n2_ := bb BK637 hb; have n3_ := bs HB hb; clear HO_6; clear BK634; clear BK637; clear HB; have HO_6 := n0_; have BK634 := n1_; have BK637 := n2_; have HB := n3_; clear n0_ n1_ n2_ n3_; (try clear hb); (try clear hb2); (try clear hk); (try clear hi)) | ((with_reducible refine gate_dst (N := 11) rfl ?_); refine bx 11 #[.int .u64 0, .int .u64 0, .int .u64 0] 40 ?_; intro gb655 hg w51 hbox hb; have n0_ := Aside0.mk (Kd.R_below (by (with_reducible repeat (first | apply Kd.R_alloc | apply Kd.R_drewN | apply Kd.R_drew)); exact HO_6.out) hb); have n1_ := bb BK634 hb; have n2_ := bb BK637 hb; have n3_ := bs HB hb; have n4_ := Aside0.mk (hbox); have n5_ := sz HB hg; have n6_ := sz HB hg; have n7_ := nl BK634 hg; have n8_ := nr BK634 hg; have n9_ := nl BK637 hg; have n10_ := nr BK637 hg; clear HO_6; clear BK634; clear BK637; clear HB; have HO_6 := n0_; have BK634 := n1_; have BK637 := n2_; have HB := n3_; have BK655 := n4_; have GW655 := n5_; have GE655 := n6_; have NB634_655 := n7_; have NB655_634 := n8_; have NB637_655 := n9_; have NB655_637 := n10_; clear n0_ n1_ n2_ n3_ n4_ n5_ n6_ n7_ n8_ n9_ n10_; clear hb hbox hg; have hnb52 := NB655_634.out; have hnc52 := NB634_655.out; have hnb53 := NB655_637.out; have hnc53 := NB637_655.out; obtain ⟨hcz54_0, hcz54_1, hcz54_2, hfz54_0, hfz54_1, hfz54_2⟩ := bc3 BK655; obtain ⟨hcz55_0, hcz55_1, hcz55_2, hcz55_3, hcz55_4, hfz55_0, hfz55_1, hfz55_2, hfz55_3, hfz55_4⟩ := bc5 BK634) | ((with_reducible refine gate_callee (f := 12) rfl ?_); refine gl (some 71) Try.func12 #[.agg #[.int .i64 a0_0, .int .u64 a0_1, .int .u64 a0_2, .int .u64 a0_3, .int .u64 a0_4], .slice Ao49 x6_2.length co49] ?_; (with_reducible refine (audit_Conforms.calls k2 a0_0 a0_1 a0_2 a0_3 a0_4 _ _ x6_2 true _ ?side1 ?side2 A44.out).mono ?_); (case side1 => refine (Kd.R_reads' (e := 31) (base := w.heap.size) (ok := fun k_ => True) (n := x6_2.length) (c := co49) ?_).2.2; exact (by (with_reducible repeat (first | apply Kd.R_alloc | apply Kd.R_drewN | apply Kd.R_drew)); exact (Kd.R_mono (Kd.R_far (p := ⟨gb655, 2, none⟩) (Kd.R_far (p := ⟨gb655, 1, none⟩) (Kd.R_far (p := ⟨gb655, 0, none⟩) (Kd.R_types HO_6.out BK655.out (by decide)) (fun _ hk => hk.2) (.int .u64 t651)) (fun _ hk => hk.2) (.int .u64 t652)) (fun _ hk => hk.2) (.int .u64 t653)) (fun _ h_ => h_.1)))); (case side2 => exact (Kd.R_reads' HO_6.out).2.1); rintro e w56 ⟨rfl, hb⟩; refine ⟨_, rfl, ?_⟩; have n0_ := Aside0.mk (Kd.R_below (by (with_reducible repeat (first | apply Kd.R_alloc | apply Kd.R_drewN | apply Kd.R_drew)); exact (Kd.R_mono (Kd.R_far (p := ⟨gb655, 2, none⟩) (Kd.R_far (p := ⟨gb655, 1, none⟩) (Kd.R_far (p := ⟨gb655, 0, none⟩) (Kd.R_types HO_6.out BK655.out (by decide)) (fun _ hk => hk.2) (.int .u64 t651)) (fun _ hk => hk.2) (.int .u64 t652)) (fun _ hk => hk.2) (.int .u64 t653)) (fun _ h_ => h_.1))) hb); have n1_ := bb BK634 hb; have n2_ := bb BK637 hb; have n3_ := bbp (.cells #[.int .u64 t651, .int .u64 t652, .int .u64 t653] 40 (0, 0)) BK655 hb; have n4_ := bs HB hb; clear HO_6; clear BK634; clear BK637; clear BK655; clear HB; have HO_6 := n0_; have BK634 := n1_; have BK637 := n2_; have BK655 := n3_; have HB := n4_; clear n0_ n1_ n2_ n3_ n4_; (try clear hb); (try clear hb2); (try clear hk); (try clear hi); obtain ⟨hcz57_0, hcz57_1, hcz57_2, hfz57_0, hfz57_1, hfz57_2⟩ := bc3 BK655; obtain ⟨hcz58_0, hcz58_1, hcz58_2, hfz58_0, hfz58_1, hfz58_2⟩ := bc3 BK637))
                    go_ret
                    exact ⟨re, bw HB⟩
                  · replace c46 := Bool.eq_false_iff.mpr c46
                    subst c46
                    have H1 : (some false) = some r := by rw [if_neg (show ¬ (false = true) by decide)] at H; exact H
                    clear H
                    have H := H1
                    clear H1
                    obtain rfl := Option.some.inj H
                    have hnb59 := NB634_637.out
                    have hnc59 := NB637_634.out
                    obtain ⟨hcz60_0, hcz60_1, hcz60_2, hcz60_3, hcz60_4, hfz60_0, hfz60_1, hfz60_2, hfz60_3, hfz60_4⟩ := bc5 BK634
                    obtain ⟨Ao61, co61, eo61⟩ := Kd.R_slice HO_6.out
                    subst eo61
                    go_wp2_with (first | ((with_reducible refine gate_callee (f := 17) rfl ?_); refine gl (some 66) Try.func17 #[.agg #[.int .i64 a0_0, .int .u64 a0_1, .int .u64 a0_2, .int .u64 a0_3, .int .u64 a0_4], .slice Ao61 x6_2.length co61] ?_; (with_reducible refine (audit_Level.calls k2 a0_0 a0_1 a0_2 a0_3 a0_4 _ _ x6_2 t651 t652 t653 false _ ?side1 ?side2 A43.out).mono ?_); (case side1 => repeat (first | exact (Kd.R_reads' HO_6.out).2.2 | (with_reducible refine Kd.C_alloc ?_ _) | (with_reducible refine Kd.C_drewN ?_ _) | (with_reducible refine Kd.C_drew ?_))); (case side2 => exact (Kd.R_reads' HO_6.out).2.1); rintro e w62 ⟨rfl, hb⟩; refine ⟨_, rfl, ?_⟩; have n0_ := Aside0.mk (Kd.R_below (by (with_reducible repeat (first | apply Kd.R_alloc | apply Kd.R_drewN | apply Kd.R_drew)); exact HO_6.out) hb); have n1_ := bb BK634 hb; have n2_ := bb BK637 hb; have n3_ := bs HB hb; clear HO_6; clear BK634; clear BK637; clear HB; have HO_6 := n0_; have BK634 := n1_; have BK637 := n2_; have HB := n3_; clear n0_ n1_ n2_ n3_; (try clear hb); (try clear hb2); (try clear hk); (try clear hi)) | ((with_reducible refine gate_dst (N := 11) rfl ?_); refine bx 11 #[.int .u64 0, .int .u64 0, .int .u64 0] 40 ?_; intro gb655 hg w63 hbox hb; have n0_ := Aside0.mk (Kd.R_below (by (with_reducible repeat (first | apply Kd.R_alloc | apply Kd.R_drewN | apply Kd.R_drew)); exact HO_6.out) hb); have n1_ := bb BK634 hb; have n2_ := bb BK637 hb; have n3_ := bs HB hb; have n4_ := Aside0.mk (hbox); have n5_ := sz HB hg; have n6_ := sz HB hg; have n7_ := nl BK634 hg; have n8_ := nr BK634 hg; have n9_ := nl BK637 hg; have n10_ := nr BK637 hg; clear HO_6; clear BK634; clear BK637; clear HB; have HO_6 := n0_; have BK634 := n1_; have BK637 := n2_; have HB := n3_; have BK655 := n4_; have GW655 := n5_; have GE655 := n6_; have NB634_655 := n7_; have NB655_634 := n8_; have NB637_655 := n9_; have NB655_637 := n10_; clear n0_ n1_ n2_ n3_ n4_ n5_ n6_ n7_ n8_ n9_ n10_; clear hb hbox hg; have hnb64 := NB655_634.out; have hnc64 := NB634_655.out; have hnb65 := NB655_637.out; have hnc65 := NB637_655.out; obtain ⟨hcz66_0, hcz66_1, hcz66_2, hfz66_0, hfz66_1, hfz66_2⟩ := bc3 BK655; obtain ⟨hcz67_0, hcz67_1, hcz67_2, hcz67_3, hcz67_4, hfz67_0, hfz67_1, hfz67_2, hfz67_3, hfz67_4⟩ := bc5 BK634) | ((with_reducible refine gate_callee (f := 12) rfl ?_); refine gl (some 71) Try.func12 #[.agg #[.int .i64 a0_0, .int .u64 a0_1, .int .u64 a0_2, .int .u64 a0_3, .int .u64 a0_4], .slice Ao61 x6_2.length co61] ?_; (with_reducible refine (audit_Conforms.calls k2 a0_0 a0_1 a0_2 a0_3 a0_4 _ _ x6_2 true _ ?side1 ?side2 A44.out).mono ?_); (case side1 => refine (Kd.R_reads' (e := 31) (base := w.heap.size) (ok := fun k_ => True) (n := x6_2.length) (c := co61) ?_).2.2; exact (by (with_reducible repeat (first | apply Kd.R_alloc | apply Kd.R_drewN | apply Kd.R_drew)); exact (Kd.R_mono (Kd.R_far (p := ⟨gb655, 2, none⟩) (Kd.R_far (p := ⟨gb655, 1, none⟩) (Kd.R_far (p := ⟨gb655, 0, none⟩) (Kd.R_types HO_6.out BK655.out (by decide)) (fun _ hk => hk.2) (.int .u64 t651)) (fun _ hk => hk.2) (.int .u64 t652)) (fun _ hk => hk.2) (.int .u64 t653)) (fun _ h_ => h_.1)))); (case side2 => exact (Kd.R_reads' HO_6.out).2.1); rintro e w68 ⟨rfl, hb⟩; refine ⟨_, rfl, ?_⟩; have n0_ := Aside0.mk (Kd.R_below (by (with_reducible repeat (first | apply Kd.R_alloc | apply Kd.R_drewN | apply Kd.R_drew)); exact (Kd.R_mono (Kd.R_far (p := ⟨gb655, 2, none⟩) (Kd.R_far (p := ⟨gb655, 1, none⟩) (Kd.R_far (p := ⟨gb655, 0, none⟩) (Kd.R_types HO_6.out BK655.out (by decide)) (fun _ hk => hk.2) (.int .u64 t651)) (fun _ hk => hk.2) (.int .u64 t652)) (fun _ hk => hk.2) (.int .u64 t653)) (fun _ h_ => h_.1))) hb); have n1_ := bb BK634 hb; have n2_ := bb BK637 hb; have n3_ := bbp (.cells #[.int .u64 t651, .int .u64 t652, .int .u64 t653] 40 (0, 0)) BK655 hb; have n4_ := bs HB hb; clear HO_6; clear BK634; clear BK637; clear BK655; clear HB; have HO_6 := n0_; have BK634 := n1_; have BK637 := n2_; have BK655 := n3_; have HB := n4_; clear n0_ n1_ n2_ n3_ n4_; (try clear hb); (try clear hb2); (try clear hk); (try clear hi)))
                    go_ret
                    exact ⟨re, bw HB⟩
                · replace c45 := Bool.eq_false_iff.mpr c45
                  subst c45
                  have H1 : (some false) = some r := by rw [if_neg (show ¬ (false = true) by decide)] at H; exact H
                  clear H
                  have H := H1
                  clear H1
                  obtain rfl := Option.some.inj H
                  have hnb69 := NB634_637.out
                  have hnc69 := NB637_634.out
                  obtain ⟨hcz70_0, hcz70_1, hcz70_2, hcz70_3, hcz70_4, hfz70_0, hfz70_1, hfz70_2, hfz70_3, hfz70_4⟩ := bc5 BK634
                  obtain ⟨Ao71, co71, eo71⟩ := Kd.R_slice HO_6.out
                  subst eo71
                  go_wp2_with (first | ((with_reducible refine gate_callee (f := 17) rfl ?_); refine gl (some 66) Try.func17 #[.agg #[.int .i64 a0_0, .int .u64 a0_1, .int .u64 a0_2, .int .u64 a0_3, .int .u64 a0_4], .slice Ao71 x6_2.length co71] ?_; (with_reducible refine (audit_Level.calls k2 a0_0 a0_1 a0_2 a0_3 a0_4 _ _ x6_2 t651 t652 t653 t654 _ ?side1 ?side2 A43.out).mono ?_); (case side1 => repeat (first | exact (Kd.R_reads' HO_6.out).2.2 | (with_reducible refine Kd.C_alloc ?_ _) | (with_reducible refine Kd.C_drewN ?_ _) | (with_reducible refine Kd.C_drew ?_))); (case side2 => exact (Kd.R_reads' HO_6.out).2.1); rintro e w72 ⟨rfl, hb⟩; refine ⟨_, rfl, ?_⟩; have n0_ := Aside0.mk (Kd.R_below (by (with_reducible repeat (first | apply Kd.R_alloc | apply Kd.R_drewN | apply Kd.R_drew)); exact HO_6.out) hb); have n1_ := bb BK634 hb; have n2_ := bb BK637 hb; have n3_ := bs HB hb; clear HO_6; clear BK634; clear BK637; clear HB; have HO_6 := n0_; have BK634 := n1_; have BK637 := n2_; have HB := n3_; clear n0_ n1_ n2_ n3_; (try clear hb); (try clear hb2); (try clear hk); (try clear hi)) | ((with_reducible refine gate_dst (N := 11) rfl ?_); refine bx 11 #[.int .u64 0, .int .u64 0, .int .u64 0] 40 ?_; intro gb655 hg w73 hbox hb; have n0_ := Aside0.mk (Kd.R_below (by (with_reducible repeat (first | apply Kd.R_alloc | apply Kd.R_drewN | apply Kd.R_drew)); exact HO_6.out) hb); have n1_ := bb BK634 hb; have n2_ := bb BK637 hb; have n3_ := bs HB hb; have n4_ := Aside0.mk (hbox); have n5_ := sz HB hg; have n6_ := sz HB hg; have n7_ := nl BK634 hg; have n8_ := nr BK634 hg; have n9_ := nl BK637 hg; have n10_ := nr BK637 hg; clear HO_6; clear BK634; clear BK637; clear HB; have HO_6 := n0_; have BK634 := n1_; have BK637 := n2_; have HB := n3_; have BK655 := n4_; have GW655 := n5_; have GE655 := n6_; have NB634_655 := n7_; have NB655_634 := n8_; have NB637_655 := n9_; have NB655_637 := n10_; clear n0_ n1_ n2_ n3_ n4_ n5_ n6_ n7_ n8_ n9_ n10_; clear hb hbox hg; have hnb74 := NB655_634.out; have hnc74 := NB634_655.out; have hnb75 := NB655_637.out; have hnc75 := NB637_655.out; obtain ⟨hcz76_0, hcz76_1, hcz76_2, hfz76_0, hfz76_1, hfz76_2⟩ := bc3 BK655; obtain ⟨hcz77_0, hcz77_1, hcz77_2, hcz77_3, hcz77_4, hfz77_0, hfz77_1, hfz77_2, hfz77_3, hfz77_4⟩ := bc5 BK634) | ((with_reducible refine gate_callee (f := 12) rfl ?_); refine gl (some 71) Try.func12 #[.agg #[.int .i64 a0_0, .int .u64 a0_1, .int .u64 a0_2, .int .u64 a0_3, .int .u64 a0_4], .slice Ao71 x6_2.length co71] ?_; (with_reducible refine (audit_Conforms.calls k2 a0_0 a0_1 a0_2 a0_3 a0_4 _ _ x6_2 false _ ?side1 ?side2 A44.out).mono ?_); (case side1 => refine (Kd.R_reads' (e := 31) (base := w.heap.size) (ok := fun k_ => True) (n := x6_2.length) (c := co71) ?_).2.2; exact (by (with_reducible repeat (first | apply Kd.R_alloc | apply Kd.R_drewN | apply Kd.R_drew)); exact (Kd.R_mono (Kd.R_far (p := ⟨gb655, 2, none⟩) (Kd.R_far (p := ⟨gb655, 1, none⟩) (Kd.R_far (p := ⟨gb655, 0, none⟩) (Kd.R_types HO_6.out BK655.out (by decide)) (fun _ hk => hk.2) (.int .u64 t651)) (fun _ hk => hk.2) (.int .u64 t652)) (fun _ hk => hk.2) (.int .u64 t653)) (fun _ h_ => h_.1)))); (case side2 => exact (Kd.R_reads' HO_6.out).2.1); rintro e w78 ⟨rfl, hb⟩; refine ⟨_, rfl, ?_⟩; have n0_ := Aside0.mk (Kd.R_below (by (with_reducible repeat (first | apply Kd.R_alloc | apply Kd.R_drewN | apply Kd.R_drew)); exact (Kd.R_mono (Kd.R_far (p := ⟨gb655, 2, none⟩) (Kd.R_far (p := ⟨gb655, 1, none⟩) (Kd.R_far (p := ⟨gb655, 0, none⟩) (Kd.R_types HO_6.out BK655.out (by decide)) (fun _ hk => hk.2) (.int .u64 t651)) (fun _ hk => hk.2) (.int .u64 t652)) (fun _ hk => hk.2) (.int .u64 t653)) (fun _ h_ => h_.1))) hb); have n1_ := bb BK634 hb; have n2_ := bb BK637 hb; have n3_ := bbp (.cells #[.int .u64 t651, .int .u64 t652, .int .u64 t653] 40 (0, 0)) BK655 hb; have n4_ := bs HB hb; clear HO_6; clear BK634; clear BK637; clear BK655; clear HB; have HO_6 := n0_; have BK634 := n1_; have BK637 := n2_; have BK655 := n3_; have HB := n4_; clear n0_ n1_ n2_ n3_ n4_; (try clear hb); (try clear hb2); (try clear hk); (try clear hi)))
                  go_ret
                  exact ⟨re, bw HB⟩
  · replace c4 := Bool.eq_false_iff.mpr c4
    subst c4
    have H1 : (some false) = some r := by rw [if_neg (show ¬ (false = true) by decide)] at H; exact H
    clear H
    have H := H1
    clear H1
    obtain rfl := Option.some.inj H
    go_enter Try.func8, Try.ntmps8
    go_wp2_with (first | ((with_reducible refine gate_dst (N := 2) rfl ?_); refine bx 2 #[.int .i64 a0_0, .int .u64 a0_1, .int .u64 a0_2, .int .u64 a0_3, .int .u64 a0_4] 24 ?_; intro gb634 hg w79 hbox hb; have n0_ := bs HB hb; have n1_ := Aside0.mk (hbox); have n2_ := sz HB hg; have n3_ := sz HB hg; clear HB; have HB := n0_; have BK634 := n1_; have GW634 := n2_; have GE634 := n3_; clear n0_ n1_ n2_ n3_; clear hb hbox hg) | ((with_reducible refine gate_callee (f := 9) rfl ?_); refine gm (some 13) Try.func9 #[] (turnstilelaw24_awake.calls k  false _ A3.out) ?_; intro w80 hb; have n0_ := bb BK634 hb; have n1_ := bs HB hb; clear BK634; clear HB; have BK634 := n0_; have HB := n1_; clear n0_ n1_; (try clear hb); (try clear hb2); (try clear hk); (try clear hi)))
    go_ret
    exact ⟨re, bw HB⟩


end Go.Proofs.Ytdoifmefhofnnaa.D
