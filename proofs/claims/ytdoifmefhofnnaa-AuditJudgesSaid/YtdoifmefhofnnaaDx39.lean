/- Written by the session's own program hyb.py: what functions of the program compute; Lean checks it. -/
import Derived.Test.YtdoifmefhofnnaaDx0
import Derived.Test.YtdoifmefhofnnaaDx22
import Derived.Test.YtdoifmefhofnnaaDx25
import Derived.Test.YtdoifmefhofnnaaDx26
import Derived.Test.YtdoifmefhofnnaaDx35
import Derived.Test.YtdoifmefhofnnaaDx38
namespace Go.Proofs.Ytdoifmefhofnnaa.D
open Go.RowKit Go.Proofs.YtdoifmefhofnnaaW.PrintWords Go.Proofs.YtdoifmefhofnnaaW.PrintLast Go.Proofs.YtdoifmefhofnnaaW.PrintMore Go.Proofs.YtdoifmefhofnnaaW.PrintShort
attribute [local go_sem] run_Add64 run_Sub64
attribute [local go_sem] max2_int min2_int max_two min_two max_three min_three max_four min_four   -- for this text's walks alone
set_option linter.unusedVariables false
set_option linter.unusedSimpArgs false

/-! ### turnstilelaw24_AuditJudges: function 3 -/
mutual
def turnstilelaw24_AuditJudges.j0 : Nat → List (S31) → Bool → Int → Int → Int → Int → Int → Option (Bool)
  | 0, _, _, _, _, _, _, _ => none
  | k + 1, x1, x35, x493000, x493001, x493002, x493003, x493004 => if x35 = true then (some false) else ((turnstilelaw24_events.f k x1).bind fun t500 => (turnstilelaw24_AuditJudges.l0 k t500 0 x493000 x493001 x493002 x493003 x493004))
def turnstilelaw24_AuditJudges.l0 : Nat → List (S31) → Int → Int → Int → Int → Int → Int → Option (Bool)
  | 0, _, _, _, _, _, _, _ => none
  | k + 1, x8, x9, x493000, x493001, x493002, x493003, x493004 => if x9 < 2 then ((audit_Conforms.f k x493000 x493001 x493002 x493003 x493004 x8).bind fun t503 => ((turnstileref24_Conforms.f k x493000 x493001 x493002 x493003 x493004 x8).bind fun t504 => (if (t503 != t504) = true then (some false) else (turnstilelaw24_AuditJudges.l1 k x8 x9 0 x493000 x493001 x493002 x493003 x493004)))) else (some true)
def turnstilelaw24_AuditJudges.l1 : Nat → List (S31) → Int → Int → Int → Int → Int → Int → Int → Option (Bool)
  | 0, _, _, _, _, _, _, _, _ => none
  | k + 1, x8, x9, x10, x493000, x493001, x493002, x493003, x493004 => if x10 < (x8.length : Int) then (if 0 ≤ x10 then ((some (x8.set (x10 : Int).toNat (⟨Go.bits .xor .u64 ((rd_T31 x8 x10).f0) 3, (rd_T31 x8 x10).f1⟩ : S31) : List (S31))).bind fun y506 => (turnstilelaw24_AuditJudges.l1 k (y506.set (x10 : Int).toNat (⟨(rd_T31 y506 x10).f0, Go.bits .or .u64 ((rd_T31 y506 x10).f1) 1⟩ : S31)) x9 (wrap64 (x10 + 1)) x493000 x493001 x493002 x493003 x493004)) else (none)) else (turnstilelaw24_AuditJudges.l0 k x8 (wrap64 (x9 + 1)) x493000 x493001 x493002 x493003 x493004)
end
def turnstilelaw24_AuditJudges.f (k : Nat) (a0_0 : Int) (a0_1 : Int) (a0_2 : Int) (a0_3 : Int) (a0_4 : Int) (l1 : List (S31)) (a2 : Int) : Option (Bool) := (turnstilelaw24_awake.f k).bind fun t493 => (if t493 = true then (if (l1.length : Int) > 1048576 then (some true) else (if (IntKind.u64.wrap (wrap64 ((l1.length : Int) + 1))) = 0 then (none) else ((turnstilelaw24_judged.f k a0_0 a0_1 a0_2 a0_3 a0_4 l1).bind fun t494 => (if t494 = true then (if 0 ≤ (wrap64 (Int.tmod (IntKind.u64.wrap (a2)) (IntKind.u64.wrap (wrap64 ((l1.length : Int) + 1))))) then (if (wrap64 (Int.tmod (IntKind.u64.wrap (a2)) (IntKind.u64.wrap (wrap64 ((l1.length : Int) + 1))))) ≤ (l1.length : Int) then ((turnstilelaw24_judged.f k a0_0 a0_1 a0_2 a0_3 a0_4 (l1.take ((wrap64 (Int.tmod (IntKind.u64.wrap (a2)) (IntKind.u64.wrap (wrap64 ((l1.length : Int) + 1))))) : Int).toNat)).bind fun t499 => (turnstilelaw24_AuditJudges.j0 k l1 (!t499) a0_0 a0_1 a0_2 a0_3 a0_4)) else (none)) else (none)) else (turnstilelaw24_AuditJudges.j0 k l1 true a0_0 a0_1 a0_2 a0_3 a0_4))))) else (some false))
def turnstilelaw24_AuditJudges.T6 : Bool × List (List Nat × List Nat) := (true, [([], []), ([], []), ([0, 1], [0, 1]), ([2], [2]), ([3, 2], [3]), ([4], [4]), ([4], [4]), ([4], [4]), ([6, 7, 4], [4, 6, 7]), ([5, 8, 4, 4], [4, 5, 8]), ([9, 4], [4, 9]), ([4, 10], [4, 10])])
def turnstilelaw24_AuditJudges.B6 : List Nat := [0, 0, 3, 7, 15, 31, 31, 31, 223, 511, 1023, 2047]
theorem turnstilelaw24_AuditJudges.tab6 : rtab .any (opsOf Try.f3 6) = turnstilelaw24_AuditJudges.T6 := by kernel_rfl
theorem turnstilelaw24_AuditJudges.bits6 : waitsOk turnstilelaw24_AuditJudges.T6.2 turnstilelaw24_AuditJudges.B6 = true := by kernel_rfl
set_option maxHeartbeats 8000000 in
set_option maxRecDepth 100000 in
theorem turnstilelaw24_AuditJudges.calls (k : Nat) (a0_0 : Int) (a0_1 : Int) (a0_2 : Int) (a0_3 : Int) (a0_4 : Int) (A1 : Option Addr) (c1 : Nat) (l1 : List (S31)) (a2 : Int) (r : Bool) (w : World) (hr1 : Kd.C k31 w A1 l1.length l1) (hc1 : l1.length ≤ c1) (h : turnstilelaw24_AuditJudges.f k a0_0 a0_1 a0_2 a0_3 a0_4 l1 a2 = some r) :
 Calls Try.prog 3 #[.agg #[.int .i64 a0_0, .int .u64 a0_1, .int .u64 a0_2, .int .u64 a0_3, .int .u64 a0_4], .slice A1 l1.length c1, .int .i64 a2] w fun e w' => e = .returned (.bool r) ∧ Below w.heap.size w w' := by
 have hu24 := Try.underlying24; have HR1 := Aside0.mk hr1; have HC1 := Aside0.mk hc1; clear hr1 hc1; have HB := Aside0.mk (Below.refl w.heap.size w)
 have H : ((turnstilelaw24_awake.f k).bind fun t493 => (if t493 = true then (if (l1.length : Int) > 1048576 then (some true) else (if (IntKind.u64.wrap (wrap64 ((l1.length : Int) + 1))) = 0 then (none) else ((turnstilelaw24_judged.f k a0_0 a0_1 a0_2 a0_3 a0_4 l1).bind fun t494 => (if t494 = true then (if 0 ≤ (wrap64 (Int.tmod (IntKind.u64.wrap (a2)) (IntKind.u64.wrap (wrap64 ((l1.length : Int) + 1))))) then (if (wrap64 (Int.tmod (IntKind.u64.wrap (a2)) (IntKind.u64.wrap (wrap64 ((l1.length : Int) + 1))))) ≤ (l1.length : Int) then ((turnstilelaw24_judged.f k a0_0 a0_1 a0_2 a0_3 a0_4 (l1.take ((wrap64 (Int.tmod (IntKind.u64.wrap (a2)) (IntKind.u64.wrap (wrap64 ((l1.length : Int) + 1))))) : Int).toNat)).bind fun t499 => (turnstilelaw24_AuditJudges.j0 k l1 (!t499) a0_0 a0_1 a0_2 a0_3 a0_4)) else (none)) else (none)) else (turnstilelaw24_AuditJudges.j0 k l1 true a0_0 a0_1 a0_2 a0_3 a0_4))))) else (some false))) = some r := h
 clear h; replace H := Option.bind_eq_some_iff.mp H
 obtain ⟨t493, A40, H⟩ := H
 replace H : (if t493 = true then (if (l1.length : Int) > 1048576 then (some true) else (if (IntKind.u64.wrap (wrap64 ((l1.length : Int) + 1))) = 0 then (none) else ((turnstilelaw24_judged.f k a0_0 a0_1 a0_2 a0_3 a0_4 l1).bind fun t494 => (if t494 = true then (if 0 ≤ (wrap64 (Int.tmod (IntKind.u64.wrap (a2)) (IntKind.u64.wrap (wrap64 ((l1.length : Int) + 1))))) then (if (wrap64 (Int.tmod (IntKind.u64.wrap (a2)) (IntKind.u64.wrap (wrap64 ((l1.length : Int) + 1))))) ≤ (l1.length : Int) then ((turnstilelaw24_judged.f k a0_0 a0_1 a0_2 a0_3 a0_4 (l1.take ((wrap64 (Int.tmod (IntKind.u64.wrap (a2)) (IntKind.u64.wrap (wrap64 ((l1.length : Int) + 1))))) : Int).toNat)).bind fun t499 => (turnstilelaw24_AuditJudges.j0 k l1 (!t499) a0_0 a0_1 a0_2 a0_3 a0_4)) else (none)) else (none)) else (turnstilelaw24_AuditJudges.j0 k l1 true a0_0 a0_1 a0_2 a0_3 a0_4))))) else (some false)) = some r := H
 have A4 := Aside0.mk A40; clear A40
 by_cases c5 : t493 = true
 · subst c5
   have H1 : (if (l1.length : Int) > 1048576 then (some true) else (if (IntKind.u64.wrap (wrap64 ((l1.length : Int) + 1))) = 0 then (none) else ((turnstilelaw24_judged.f k a0_0 a0_1 a0_2 a0_3 a0_4 l1).bind fun t494 => (if t494 = true then (if 0 ≤ (wrap64 (Int.tmod (IntKind.u64.wrap (a2)) (IntKind.u64.wrap (wrap64 ((l1.length : Int) + 1))))) then (if (wrap64 (Int.tmod (IntKind.u64.wrap (a2)) (IntKind.u64.wrap (wrap64 ((l1.length : Int) + 1))))) ≤ (l1.length : Int) then ((turnstilelaw24_judged.f k a0_0 a0_1 a0_2 a0_3 a0_4 (l1.take ((wrap64 (Int.tmod (IntKind.u64.wrap (a2)) (IntKind.u64.wrap (wrap64 ((l1.length : Int) + 1))))) : Int).toNat)).bind fun t499 => (turnstilelaw24_AuditJudges.j0 k l1 (!t499) a0_0 a0_1 a0_2 a0_3 a0_4)) else (none)) else (none)) else (turnstilelaw24_AuditJudges.j0 k l1 true a0_0 a0_1 a0_2 a0_3 a0_4))))) = some r := by rw [if_pos rfl] at H; exact H
   clear H; have H := H1; clear H1
   by_cases c6 : (l1.length : Int) > 1048576
   · rw [if_pos c6] at H
     have c6b0 : decide (1048576 < (l1.length : Int)) = true := decide_eq_true c6
     have c6b1 : decide (1048576 < l1.length) = true := decide_eq_true (by omega)
     clear c6
     obtain rfl := Option.some.inj H
     go_enter Try.func3, Try.ntmps3
     go_wp2_with (first | ((with_reducible refine gate_dst (N := 3) rfl ?_); refine bx 3 #[.int .i64 a0_0, .int .u64 a0_1, .int .u64 a0_2, .int .u64 a0_3, .int .u64 a0_4] 24 ?_; intro gb492 hg w7 hbox hb; have BK492 := Aside0.mk (hbox); have GW492 := sz HB hg; have GE492 := sz HB hg; replace HB := bs HB hb; clear hb hbox hg) | ((with_reducible refine gate_callee (f := 9) rfl ?_); refine gm (some 11) Try.func9 #[] (turnstilelaw24_awake.calls k  true _ A4.out) ?_; intro w8 hb; replace BK492 := bb BK492 hb; replace HB := bs HB hb; (try clear hb); (try clear hb2); (try clear hk); (try clear hi)))
     go_ret
     exact ⟨re, bw HB⟩
   · rw [if_neg c6] at H
     have c6b0 : decide (1048576 < (l1.length : Int)) = false := decide_eq_false c6
     have c6b1 : decide (1048576 < l1.length) = false := decide_eq_false (by omega)
     clear c6
     by_cases c9 : (IntKind.u64.wrap (wrap64 ((l1.length : Int) + 1))) = 0
     · rw [if_pos c9] at H
       exact absurd H (by simp)
     · rw [if_neg c9] at H
       have c9b0 : ((IntKind.u64.wrap (wrap64 ((l1.length : Int) + 1))) == 0) = false := beq_eq_false_iff_ne.mpr c9
       have c9b1 : ((IntKind.u64.wrap (wrap64 ((l1.length : Int) + 1))) != 0) = true := bne_iff_ne.mpr c9
       have HC10 := Aside0.mk H; clear H
       go_enter Try.func3, Try.ntmps3
       go_upto_region 6 with (first | ((with_reducible refine gate_dst (N := 3) rfl ?_); refine bx 3 #[.int .i64 a0_0, .int .u64 a0_1, .int .u64 a0_2, .int .u64 a0_3, .int .u64 a0_4] 24 ?_; intro gb492 hg w11 hbox hb; have BK492 := Aside0.mk (hbox); have GW492 := sz HB hg; have GE492 := sz HB hg; replace HB := bs HB hb; clear hb hbox hg) | ((with_reducible refine gate_callee (f := 9) rfl ?_); refine gm (some 11) Try.func9 #[] (turnstilelaw24_awake.calls k  true _ A4.out) ?_; intro w12 hb; replace BK492 := bb BK492 hb; replace HB := bs HB hb; (try clear hb); (try clear hb2); (try clear hk); (try clear hi)))
       (try simp only [Act.put, List.setIfInBounds_toArray, List.set_cons_zero, List.set_cons_succ])
       go_cut [35] (fun v35 wc => ∃ (kq : Nat) (x35_9 : Bool), v35 = .bool x35_9 ∧ Aside0 (turnstilelaw24_AuditJudges.j0 kq l1 x35_9 a0_0 a0_1 a0_2 a0_3 a0_4 = some r) ∧ Aside0 (kq ≤ k) ∧ Aside0 (wc.heap[gb492]? = some (.cells #[.int .i64 a0_0, .int .u64 a0_1, .int .u64 a0_2, .int .u64 a0_3, .int .u64 a0_4] 24 (0, 0))) ∧ Aside0 (Below w.heap.size w wc))
       case first =>
        have H := HC10.out; clear HC10; replace H := Option.bind_eq_some_iff.mp H
        obtain ⟨t494, A130, H⟩ := H
        replace H : (if t494 = true then (if 0 ≤ (wrap64 (Int.tmod (IntKind.u64.wrap (a2)) (IntKind.u64.wrap (wrap64 ((l1.length : Int) + 1))))) then (if (wrap64 (Int.tmod (IntKind.u64.wrap (a2)) (IntKind.u64.wrap (wrap64 ((l1.length : Int) + 1))))) ≤ (l1.length : Int) then ((turnstilelaw24_judged.f k a0_0 a0_1 a0_2 a0_3 a0_4 (l1.take ((wrap64 (Int.tmod (IntKind.u64.wrap (a2)) (IntKind.u64.wrap (wrap64 ((l1.length : Int) + 1))))) : Int).toNat)).bind fun t499 => (turnstilelaw24_AuditJudges.j0 k l1 (!t499) a0_0 a0_1 a0_2 a0_3 a0_4)) else (none)) else (none)) else (turnstilelaw24_AuditJudges.j0 k l1 true a0_0 a0_1 a0_2 a0_3 a0_4)) = some r := H
        have A13 := Aside0.mk A130; clear A130
        by_cases c14 : t494 = true
        · subst c14
          have H1 : (if 0 ≤ (wrap64 (Int.tmod (IntKind.u64.wrap (a2)) (IntKind.u64.wrap (wrap64 ((l1.length : Int) + 1))))) then (if (wrap64 (Int.tmod (IntKind.u64.wrap (a2)) (IntKind.u64.wrap (wrap64 ((l1.length : Int) + 1))))) ≤ (l1.length : Int) then ((turnstilelaw24_judged.f k a0_0 a0_1 a0_2 a0_3 a0_4 (l1.take ((wrap64 (Int.tmod (IntKind.u64.wrap (a2)) (IntKind.u64.wrap (wrap64 ((l1.length : Int) + 1))))) : Int).toNat)).bind fun t499 => (turnstilelaw24_AuditJudges.j0 k l1 (!t499) a0_0 a0_1 a0_2 a0_3 a0_4)) else (none)) else (none)) = some r := by rw [if_pos rfl] at H; exact H
          clear H; have H := H1; clear H1
          obtain ⟨ji15, hji15⟩ : ∃ j_ : Int, (wrap64 (Int.tmod (IntKind.u64.wrap (a2)) (IntKind.u64.wrap (wrap64 ((l1.length : Int) + 1))))) = j_ := ⟨_, rfl⟩
          replace H : (if 0 ≤ (ji15) then (if (ji15) ≤ (l1.length : Int) then ((turnstilelaw24_judged.f k a0_0 a0_1 a0_2 a0_3 a0_4 (l1.take ((ji15) : Int).toNat)).bind fun t499 => (turnstilelaw24_AuditJudges.j0 k l1 (!t499) a0_0 a0_1 a0_2 a0_3 a0_4)) else (none)) else (none)) = some r := by first | (rw [hji15] at H; exact H) | (simp only [hji15] at H ⊢; exact H)
          (try rw [hji15] at A13)
          have hji15w : (IntKind.i64.wrap (Int.tmod (IntKind.u64.wrap (a2)) (IntKind.u64.wrap (wrap64 ((l1.length : Int) + 1))))) = ji15 := (i64_w _).trans hji15
          by_cases c16 : 0 ≤ (ji15)
          · rw [if_pos c16] at H
            have c16b0 := eq_true c16
            have c16b1 : decide (0 ≤ (ji15)) = true := decide_eq_true c16
            clear c16
            by_cases c17 : (ji15) ≤ (l1.length : Int)
            · rw [if_pos c17] at H
              have c17b0 := eq_true c17
              have c17b1 : decide ((ji15) ≤ (l1.length : Int)) = true := decide_eq_true c17
              clear c17
              obtain ⟨y495, hy495⟩ : ∃ y_ : List (S31), y_ = (l1.take ((ji15) : Int).toNat) := ⟨_, rfl⟩
              replace H : ((turnstilelaw24_judged.f k a0_0 a0_1 a0_2 a0_3 a0_4 y495).bind fun t499 => (turnstilelaw24_AuditJudges.j0 k l1 (!t499) a0_0 a0_1 a0_2 a0_3 a0_4)) = some r := by first | (rw [hy495]; with_reducible exact H) | (have H2_ := (Option.bind_some _ _).symm.trans H; rw [hy495]; with_reducible exact H2_) | (have H2_ := (Option.bind_some _ _).symm.trans H; with_reducible exact H2_) | with_reducible exact H | (rw [hy495]; exact H) | exact H
              have Ny495 := Aside0.mk hy495; clear hy495; replace H := Option.bind_eq_some_iff.mp H
              obtain ⟨t499, A180, H⟩ := H
              replace H : (turnstilelaw24_AuditJudges.j0 k l1 (!t499) a0_0 a0_1 a0_2 a0_3 a0_4) = some r := H
              have A18 := Aside0.mk A180; clear A180
              have H' := Aside0.mk H
              clear H
              try go_wp2
              replace BK492 := Aside0.mk (blk_drew BK492.out); replace HB := Aside0.mk (below_drew1 HB.out)
              refine start_ (n := 12) (S := fun w' => w'.cell? ⟨gb492, 0, none⟩ = some (.int .i64 a0_0) ∧ w'.cell? ⟨gb492, 1, none⟩ = some (.int .u64 a0_1) ∧ w'.cell? ⟨gb492, 2, none⟩ = some (.int .u64 a0_2) ∧ w'.cell? ⟨gb492, 3, none⟩ = some (.int .u64 a0_3) ∧ w'.cell? ⟨gb492, 4, none⟩ = some (.int .u64 a0_4)) (ds := []) #[false, false, false, false, false, false, false, false, false, false, false, false] (by kernel_rfl) rfl rfl ⟨(blk_cell BK492.out 0).trans rfl, (blk_cell BK492.out 1).trans rfl, (blk_cell BK492.out 2).trans rfl, (blk_cell BK492.out 3).trans rfl, (blk_cell BK492.out 4).trans rfl⟩ (fun hHeld => ?_); refine with_tabW turnstilelaw24_AuditJudges.tab6 turnstilelaw24_AuditJudges.bits6 (fun HT_ HW_ => ?_)
              generalize w12.drew = w19 at BK492 HB hHeld ⊢
              refine chain_ (fuel := 10) [(1, 0, some 25), (0, 1, some 24)] #[true, true, false, false, false, false, false, false, false, false, false, false] HT_.out HW_.out (by kernel_rfl) (fun _ _ _ _ _ h => h) (Or.inr hHeld) rfl ?_
              refine lkP ?_; refine lkT ?_; refine .nil ?_
              refine one_ (i := 2) (N := some 26) #[true, true, true, false, false, false, false, false, false, false, false, false] rfl rfl (one_of HT_.out (by kernel_rfl)) (by decide) (fun K hK => ?_)
              refine ge Try.func10 #[.agg #[.int .i64 a0_0, .int .u64 a0_1, .int .u64 a0_2, .int .u64 a0_3, .int .u64 a0_4], .slice A1 l1.length c1] ?_
              with_reducible refine (turnstilelaw24_judged.calls k a0_0 a0_1 a0_2 a0_3 a0_4 _ _ l1 true _ ?side1 ?side2 A13.out).mono ?_
              (case side1 => exact co (Kd.C_below HR1.out HB.out))
              (case side2 => exact HC1.out)
              rintro e w20 ⟨rfl, hb⟩
              refine ⟨_, rfl, ?_⟩
              replace BK492 := bb BK492 hb; replace HB := bs HB hb; (try clear hb); (try clear hb2); (try clear hk); (try clear hi)
              have q21 : ((ji15) : Int) ≤ ((l1.length : Int) : Int) := of_decide_eq_true (by first | (with_reducible assumption) | assumption)
              obtain ⟨i021, hi021, _, hsz21, _⟩ := info_parts info31
              have hroom21 : l1.length ≤ c1 := HC1.out
              have hC21 : Kd.C k31 _ A1 l1.length l1 := HR1.out
              have hcut21 := cut_to (P := Try.prog) 25 31 .i64 Try.underlying25 hi021 A1 l1.length c1 (ji15) (of_decide_eq_true (by first | (with_reducible assumption) | assumption)) q21 hroom21; have hr21 := Kd.C_take (m := ((ji15) : Int).toNat) hC21 (by omega)
              have hy21 : y495.length = ((ji15) : Int).toNat := (by rw [Ny495.out, List.length_take]; omega)
              rw [← Ny495.out] at hr21
              rw [← hy21] at hcut21
              have HR498 := Aside0.mk hr21
              have HC498 := Aside0.mk (show y495.length ≤ c1 from by omega)
              clear hr21 hC21 hroom21 hi021 hsz21; have KY21 := Aside0.mk hy21; clear hy21; replace q21 := eq_true q21
              refine hK.out _ _ ⟨(blk_cell BK492.out 0).trans rfl, (blk_cell BK492.out 1).trans rfl, (blk_cell BK492.out 2).trans rfl, (blk_cell BK492.out 3).trans rfl, (blk_cell BK492.out 4).trans rfl⟩ (fun hHeld => ?_)
              clear hK K
              refine norm_ (a' := ?_) ?_ ?_
              rotate_left
              · show Act.put _ (some 26) _ = _
                simp only [Act.put, List.setIfInBounds_toArray, List.set_cons_zero, List.set_cons_succ, i64_w, i32_w]
                rfl
              refine chain_ (fuel := 3) [(3, 0, some 27), (4, 0, some 28), (6, 0, some 30), (7, 0, some 31), (8, 0, some 32), (5, 1, some 29)] #[true, true, true, true, true, true, true, true, true, false, false, false] HT_.out HW_.out (by kernel_rfl) (fun _ _ _ _ _ h => h) (Or.inr hHeld) rfl ?_
              (iterate 5 refine lkP ?_); refine lkT ?_; refine .nil ?_
              refine one_ (i := 9) (N := some 33) #[true, true, true, true, true, true, true, true, true, true, false, false] rfl rfl (one_of HT_.out (by kernel_rfl)) (by decide) (fun K hK => ?_)
              refine ge Try.func10 #[.agg #[.int .i64 a0_0, .int .u64 a0_1, .int .u64 a0_2, .int .u64 a0_3, .int .u64 a0_4], .slice A1 y495.length c1] ?_
              with_reducible refine (turnstilelaw24_judged.calls k a0_0 a0_1 a0_2 a0_3 a0_4 _ _ y495 t499 _ ?side1 ?side2 A18.out).mono ?_
              (case side1 => exact co (Kd.C_below HR498.out HB.out))
              (case side2 => exact HC498.out)
              rintro e w22 ⟨rfl, hb⟩
              refine ⟨_, rfl, ?_⟩
              replace BK492 := bb BK492 hb; replace HB := bs HB hb; (try clear hb); (try clear hb2); (try clear hk); (try clear hi)
              refine hK.out _ _ ⟨(blk_cell BK492.out 0).trans rfl, (blk_cell BK492.out 1).trans rfl, (blk_cell BK492.out 2).trans rfl, (blk_cell BK492.out 3).trans rfl, (blk_cell BK492.out 4).trans rfl⟩ (fun hHeld => ?_)
              clear hK K
              refine norm_ (a' := ?_) ?_ ?_
              rotate_left
              · show Act.put _ (some 33) _ = _
                simp only [Act.put, List.setIfInBounds_toArray, List.set_cons_zero, List.set_cons_succ, i64_w, i32_w]
                rfl
              refine chain_ (fuel := 0) [(10, 0, some 34), (11, 0, some 35)] #[true, true, true, true, true, true, true, true, true, true, true, true] HT_.out HW_.out (by kernel_rfl) (fun _ _ _ _ _ h => h) (Or.inl (by decide)) rfl ?_
              (iterate 2 refine lkP ?_); refine .nil ?_
              refine done_ (done_of HT_.out (by kernel_rfl)) ?_
              try go_wp2
              go_meet
              case rel => exact ⟨_, (!t499), rs, H', ⟨by first | omega | exact Nat.le_refl _⟩, ⟨bk BK492⟩, ⟨bw HB⟩⟩
            · rw [if_neg c17] at H
              exact absurd H (by simp)
          · rw [if_neg c16] at H
            exact absurd H (by simp)
        · replace c14 := Bool.eq_false_iff.mpr c14
          subst c14
          have H1 : (turnstilelaw24_AuditJudges.j0 k l1 true a0_0 a0_1 a0_2 a0_3 a0_4) = some r := by rw [if_neg (show ¬ (false = true) by decide)] at H; exact H
          clear H; have H := H1; clear H1
          have H' := Aside0.mk H
          clear H
          try go_wp2
          replace BK492 := Aside0.mk (blk_drew BK492.out); replace HB := Aside0.mk (below_drew1 HB.out)
          refine start_ (n := 12) (S := fun w' => w'.cell? ⟨gb492, 0, none⟩ = some (.int .i64 a0_0) ∧ w'.cell? ⟨gb492, 1, none⟩ = some (.int .u64 a0_1) ∧ w'.cell? ⟨gb492, 2, none⟩ = some (.int .u64 a0_2) ∧ w'.cell? ⟨gb492, 3, none⟩ = some (.int .u64 a0_3) ∧ w'.cell? ⟨gb492, 4, none⟩ = some (.int .u64 a0_4)) (ds := []) #[false, false, false, false, false, false, false, false, false, false, false, false] (by kernel_rfl) rfl rfl ⟨(blk_cell BK492.out 0).trans rfl, (blk_cell BK492.out 1).trans rfl, (blk_cell BK492.out 2).trans rfl, (blk_cell BK492.out 3).trans rfl, (blk_cell BK492.out 4).trans rfl⟩ (fun hHeld => ?_); refine with_tabW turnstilelaw24_AuditJudges.tab6 turnstilelaw24_AuditJudges.bits6 (fun HT_ HW_ => ?_)
          generalize w12.drew = w23 at BK492 HB hHeld ⊢
          refine chain_ (fuel := 10) [(1, 0, some 25), (0, 1, some 24)] #[true, true, false, false, false, false, false, false, false, false, false, false] HT_.out HW_.out (by kernel_rfl) (fun _ _ _ _ _ h => h) (Or.inr hHeld) rfl ?_
          refine lkP ?_; refine lkT ?_; refine .nil ?_
          refine one_ (i := 2) (N := some 26) #[true, true, true, false, false, false, false, false, false, false, false, false] rfl rfl (one_of HT_.out (by kernel_rfl)) (by decide) (fun K hK => ?_)
          refine ge Try.func10 #[.agg #[.int .i64 a0_0, .int .u64 a0_1, .int .u64 a0_2, .int .u64 a0_3, .int .u64 a0_4], .slice A1 l1.length c1] ?_
          with_reducible refine (turnstilelaw24_judged.calls k a0_0 a0_1 a0_2 a0_3 a0_4 _ _ l1 false _ ?side1 ?side2 A13.out).mono ?_
          (case side1 => exact co (Kd.C_below HR1.out HB.out))
          (case side2 => exact HC1.out)
          rintro e w24 ⟨rfl, hb⟩
          refine ⟨_, rfl, ?_⟩
          replace BK492 := bb BK492 hb; replace HB := bs HB hb; (try clear hb); (try clear hb2); (try clear hk); (try clear hi)
          refine hK.out _ _ ⟨(blk_cell BK492.out 0).trans rfl, (blk_cell BK492.out 1).trans rfl, (blk_cell BK492.out 2).trans rfl, (blk_cell BK492.out 3).trans rfl, (blk_cell BK492.out 4).trans rfl⟩ (fun hHeld => ?_)
          clear hK K
          refine norm_ (a' := ?_) ?_ ?_
          rotate_left
          · show Act.put _ (some 26) _ = _
            simp only [Act.put, List.setIfInBounds_toArray, List.set_cons_zero, List.set_cons_succ, i64_w, i32_w]
            rfl
          refine chain_ (fuel := 0) [(3, 0, some 27), (4, 0, some 28), (5, 2, some 29), (6, 2, some 30), (7, 2, some 31), (8, 2, some 32), (9, 2, some 33), (10, 2, some 34), (11, 0, some 35)] #[true, true, true, true, true, true, true, true, true, true, true, true] HT_.out HW_.out (by kernel_rfl) (fun _ _ _ _ _ h => h) (Or.inl (by decide)) rfl ?_
          (iterate 2 refine lkP ?_); (iterate 6 refine lkO ?_); refine lkP ?_; refine .nil ?_
          refine done_ (done_of HT_.out (by kernel_rfl)) ?_
          try go_wp2
          go_meet
          case rel => exact ⟨_, (true), rs, H', ⟨by first | omega | exact Nat.le_refl _⟩, ⟨bk BK492⟩, ⟨bw HB⟩⟩
       case rest =>
        clear HC10; (try clear c1); (try clear p2); (try clear q2); (try clear c3); (try clear c5); (try clear c6); (try clear c6b0); (try clear c6b1); (try clear p6); (try clear c9); (try clear c9b0); (try clear c9b1); (try clear c10); (try clear c14); (try clear c16); (try clear c16b0); (try clear c16b1); (try clear c17); (try clear c17b0); (try clear c17b1); (try clear q21); (try clear q21)
        obtain ⟨kq, x35_9, rfl, HA, HJ9, BK492, HB⟩ := hcut
        cases kq with
        | zero => exact absurd HA.out (by simp [turnstilelaw24_AuditJudges.j0])
        | succ kj9 =>
         have H := HA.out; clear HA
         simp only [turnstilelaw24_AuditJudges.j0] at H
         by_cases c25 : x35_9 = true
         · subst c25
           have H1 : (some false) = some r := by rw [if_pos rfl] at H; exact H
           clear H; have H := H1; clear H1
           obtain rfl := Option.some.inj H
           go_wp2
           go_ret
           exact ⟨re, bw HB⟩
         · replace c25 := Bool.eq_false_iff.mpr c25
           subst c25
           have H1 : ((turnstilelaw24_events.f kj9 l1).bind fun t500 => (turnstilelaw24_AuditJudges.l0 kj9 t500 0 a0_0 a0_1 a0_2 a0_3 a0_4)) = some r := by rw [if_neg (show ¬ (false = true) by decide)] at H; exact H
           clear H; have H := H1; clear H1; replace H := Option.bind_eq_some_iff.mp H
           obtain ⟨t500, A260, H⟩ := H
           replace H : (turnstilelaw24_AuditJudges.l0 kj9 t500 0 a0_0 a0_1 a0_2 a0_3 a0_4) = some r := H
           have A26 := Aside0.mk A260; clear A260
           have H' := Aside0.mk H
           clear H
           go_wp2_with (first | ((with_reducible refine gate_callee (f := 11) rfl ?_); refine gl (some 37) Try.func11 #[.slice A1 l1.length c1] ?_; (with_reducible refine (turnstilelaw24_events.calls kj9 _ _ l1 t500 _ ?side1 ?side2 A26.out).mono ?_); (case side1 => exact co (Kd.C_below HR1.out HB.out)); (case side2 => exact HC1.out); rintro e w27 ⟨v501, rfl, ho0, hb⟩; refine ⟨_, rfl, ?_⟩; have HO502 := Aside0.mk (Kd.R_lower ho0 (below_size (bw HB))); replace BK492 := bb BK492 hb; replace HB := bs HB hb; (try clear hb); (try clear hb2); (try clear hk); (try clear hi); (try clear ho0)))
           go_loopg [9] kj9 (fun kq v9 w' => ∃ (x8_2 : List (S31)) (x9_2 : Int), v9 = .int .i64 x9_2 ∧ Aside0 (turnstilelaw24_AuditJudges.l0 kq x8_2 x9_2 a0_0 a0_1 a0_2 a0_3 a0_4 = some r) ∧ Aside0 (kq ≤ kj9) ∧ Aside0 (Kd.R k31 31 w' w.heap.size (fun _ => True) v501 x8_2) ∧ Aside0 (w'.heap[gb492]? = some (.cells #[.int .i64 a0_0, .int .u64 a0_1, .int .u64 a0_2, .int .u64 a0_3, .int .u64 a0_4] 24 (0, 0))) ∧ Aside0 (Below w.heap.size w w'))
           case atStart => exact ⟨(t500), (0), rs, H', ⟨Nat.le_refl _⟩, ⟨ro HO502⟩, ⟨bk BK492⟩, ⟨bw HB⟩⟩
           case round =>
            clear H'; (try clear c1); (try clear c2); (try clear p2); (try clear q2); (try clear c3); (try clear c5); (try clear c6); (try clear c6b0); (try clear c6b1); (try clear p6); (try clear c9); (try clear c9b0); (try clear c9b1); (try clear c10); (try clear c11); (try clear c14); (try clear c16); (try clear c16b0); (try clear c16b1); (try clear c17); (try clear c17b0); (try clear c17b1); (try clear q21); (try clear c25); (try clear p2); (try clear p6); (try clear q2); (try clear q21)
            obtain ⟨x8_2, x9_2, rfl, HA, HK2, HO_8, BK492, HB⟩ := hrel
            cases gk with
            | zero => exact absurd HA.out (by simp [turnstilelaw24_AuditJudges.l0])
            | succ k2 =>
             have H := HA.out; clear HA
             simp only [turnstilelaw24_AuditJudges.l0] at H
             by_cases c28 : x9_2 < 2
             · rw [if_pos c28] at H
               have c28b0 : decide (x9_2 < 2) = true := decide_eq_true c28
               clear c28; replace H := Option.bind_eq_some_iff.mp H
               obtain ⟨t503, A290, H⟩ := H
               replace H : ((turnstileref24_Conforms.f k2 a0_0 a0_1 a0_2 a0_3 a0_4 x8_2).bind fun t504 => (if (t503 != t504) = true then (some false) else (turnstilelaw24_AuditJudges.l1 k2 x8_2 x9_2 0 a0_0 a0_1 a0_2 a0_3 a0_4))) = some r := H
               have A29 := Aside0.mk A290; clear A290; replace H := Option.bind_eq_some_iff.mp H
               obtain ⟨t504, A300, H⟩ := H
               replace H : (if (t503 != t504) = true then (some false) else (turnstilelaw24_AuditJudges.l1 k2 x8_2 x9_2 0 a0_0 a0_1 a0_2 a0_3 a0_4)) = some r := H
               have A30 := Aside0.mk A300; clear A300
               by_cases c31 : (t503 != t504) = true
               · rw [if_pos c31] at H
                 have c31b0 : (t503 != t504) = true := c31
                 (try (have c31b1 : decide (t503 = t504) = false := by simpa using c31))
                 (try (have c31b2 : (t503 == t504) = false := by simpa using c31))
                 (try (have c31b3 : ¬ (t503 = t504) := by simpa using c31))
                 clear c31
                 obtain rfl := Option.some.inj H
                 try go_wp2
                 replace HO_8 := Aside0.mk (Kd.R_drew HO_8.out); replace BK492 := Aside0.mk (blk_drew BK492.out); replace HB := Aside0.mk (below_drew1 HB.out)
                 obtain ⟨Ao33, co33, eo33⟩ := Kd.R_slice HO_8.out
                 (first | subst eo33 | (injection eo33 with f1_ f2_ f3_; have f4_ := f1_.symm; have f5_ := f3_.symm; clear f1_ f2_ f3_; subst f4_; subst f5_))
                 refine start_ (n := 7) (S := fun w' => w'.cell? ⟨gb492, 0, none⟩ = some (.int .i64 a0_0) ∧ w'.cell? ⟨gb492, 1, none⟩ = some (.int .u64 a0_1) ∧ w'.cell? ⟨gb492, 2, none⟩ = some (.int .u64 a0_2) ∧ w'.cell? ⟨gb492, 3, none⟩ = some (.int .u64 a0_3) ∧ w'.cell? ⟨gb492, 4, none⟩ = some (.int .u64 a0_4)) (ds := []) #[false, false, false, false, false, false, false] (by kernel_rfl) rfl rfl ⟨(blk_cell BK492.out 0).trans rfl, (blk_cell BK492.out 1).trans rfl, (blk_cell BK492.out 2).trans rfl, (blk_cell BK492.out 3).trans rfl, (blk_cell BK492.out 4).trans rfl⟩ (fun hHeld => ?_)
                 generalize wr.drew = w32 at HO_8 BK492 HB hHeld ⊢
                 refine pure_ (i := 1) (N := some 43) (v := ?_) (a' := ?_) #[false, true, false, false, false, false, false] rfl rfl (by kernel_rfl) (fun _ _ _ h => h) (Or.inl ⟨by rfl, ?_⟩) ?_ ?_
                 rotate_left
                 · intro w'
                   go_simp
                   with_reducible rfl
                 rotate_left
                 · simp only [Act.put, List.setIfInBounds_toArray, List.set_cons_zero, List.set_cons_succ, i64_w, i32_w]
                   rfl
                 refine pure_ (i := 4) (N := some 46) (v := ?_) (a' := ?_) #[false, true, false, false, true, false, false] rfl rfl (by kernel_rfl) (fun _ _ _ h => h) (Or.inl ⟨by rfl, ?_⟩) ?_ ?_
                 rotate_left
                 · intro w'
                   go_simp
                   with_reducible rfl
                 rotate_left
                 · simp only [Act.put, List.setIfInBounds_toArray, List.set_cons_zero, List.set_cons_succ, i64_w, i32_w]
                   rfl
                 refine take_ (i := 0) (N := some 42) (v := ?_) (a' := ?_) #[true, true, false, false, true, false, false] rfl rfl (by kernel_rfl) (fun _ _ _ h => h) (Or.inl ⟨by rfl, ?_⟩) hHeld ?_ ?_
                 rotate_left
                 · rintro w' ⟨s0, s1, s2, s3, s4⟩
                   go_simp
                   with_reducible rfl
                 rotate_left
                 · simp only [Act.put, List.setIfInBounds_toArray, List.set_cons_zero, List.set_cons_succ, i64_w, i32_w]
                   rfl
                 refine take_ (i := 3) (N := some 45) (v := ?_) (a' := ?_) #[true, true, false, true, true, false, false] rfl rfl (by kernel_rfl) (fun _ _ _ h => h) (Or.inl ⟨by rfl, ?_⟩) hHeld ?_ ?_
                 rotate_left
                 · rintro w' ⟨s0, s1, s2, s3, s4⟩
                   go_simp
                   with_reducible rfl
                 rotate_left
                 · simp only [Act.put, List.setIfInBounds_toArray, List.set_cons_zero, List.set_cons_succ, i64_w, i32_w]
                   rfl
                 refine one_ (i := 2) (N := some 44) #[true, true, true, true, true, false, false] rfl rfl (by kernel_rfl) (by decide) (fun K hK => ?_)
                 refine ge Try.func12 #[.agg #[.int .i64 a0_0, .int .u64 a0_1, .int .u64 a0_2, .int .u64 a0_3, .int .u64 a0_4], .slice Ao33 x8_2.length co33] ?_
                 with_reducible refine (audit_Conforms.calls k2 a0_0 a0_1 a0_2 a0_3 a0_4 _ _ x8_2 t503 _ ?side1 ?side2 A29.out).mono ?_
                 (case side1 => exact co (Kd.R_reads' HO_8.out).2.2)
                 (case side2 => exact (Kd.R_reads' HO_8.out).2.1)
                 rintro e w34 ⟨rfl, hb⟩
                 refine ⟨_, rfl, ?_⟩
                 replace HO_8 := Aside0.mk (Kd.R_below (ro HO_8) hb); replace BK492 := bb BK492 hb; replace HB := bs HB hb; (try clear hb); (try clear hb2); (try clear hk); (try clear hi)
                 refine hK.out _ _ ⟨(blk_cell BK492.out 0).trans rfl, (blk_cell BK492.out 1).trans rfl, (blk_cell BK492.out 2).trans rfl, (blk_cell BK492.out 3).trans rfl, (blk_cell BK492.out 4).trans rfl⟩ (fun hHeld => ?_)
                 clear hK K
                 refine norm_ (a' := ?_) ?_ ?_
                 rotate_left
                 · show Act.put _ (some 44) _ = _
                   simp only [Act.put, List.setIfInBounds_toArray, List.set_cons_zero, List.set_cons_succ, i64_w, i32_w]
                   rfl
                 refine one_ (i := 5) (N := some 47) #[true, true, true, true, true, true, false] rfl rfl (by kernel_rfl) (by decide) (fun K hK => ?_)
                 refine ge Try.func13 #[.agg #[.int .i64 a0_0, .int .u64 a0_1, .int .u64 a0_2, .int .u64 a0_3, .int .u64 a0_4], .slice Ao33 x8_2.length co33] ?_
                 with_reducible refine (turnstileref24_Conforms.calls k2 a0_0 a0_1 a0_2 a0_3 a0_4 _ _ x8_2 t504 _ ?side1 ?side2 A30.out).mono ?_
                 (case side1 => exact co (Kd.R_reads' HO_8.out).2.2)
                 (case side2 => exact (Kd.R_reads' HO_8.out).2.1)
                 rintro e w35 ⟨rfl, hb⟩
                 refine ⟨_, rfl, ?_⟩
                 replace HO_8 := Aside0.mk (Kd.R_below (ro HO_8) hb); replace BK492 := bb BK492 hb; replace HB := bs HB hb; (try clear hb); (try clear hb2); (try clear hk); (try clear hi)
                 refine hK.out _ _ ⟨(blk_cell BK492.out 0).trans rfl, (blk_cell BK492.out 1).trans rfl, (blk_cell BK492.out 2).trans rfl, (blk_cell BK492.out 3).trans rfl, (blk_cell BK492.out 4).trans rfl⟩ (fun hHeld => ?_)
                 clear hK K
                 refine norm_ (a' := ?_) ?_ ?_
                 rotate_left
                 · show Act.put _ (some 47) _ = _
                   simp only [Act.put, List.setIfInBounds_toArray, List.set_cons_zero, List.set_cons_succ, i64_w, i32_w]
                   rfl
                 refine pure_ (i := 6) (N := some 48) (v := ?_) (a' := ?_) #[true, true, true, true, true, true, true] rfl rfl (by kernel_rfl) (fun _ _ _ h => h) (Or.inl ⟨by rfl, ?_⟩) ?_ ?_
                 rotate_left
                 · intro w'
                   go_simp
                   with_reducible rfl
                 rotate_left
                 · simp only [Act.put, List.setIfInBounds_toArray, List.set_cons_zero, List.set_cons_succ, i64_w, i32_w]
                   rfl
                 refine done_ (by kernel_rfl) ?_
                 try go_wp2
                 go_ret
                 exact ⟨re, bw HB⟩
               · rw [if_neg c31] at H
                 have c31b0 : (t503 != t504) = false := by simpa using c31
                 (try (have c31b1 : decide (t503 = t504) = true := by simpa using c31))
                 (try (have c31b2 : (t503 == t504) = true := by simpa using c31))
                 clear c31
                 have H' := Aside0.mk H
                 clear H
                 try go_wp2
                 replace HO_8 := Aside0.mk (Kd.R_drew HO_8.out); replace BK492 := Aside0.mk (blk_drew BK492.out); replace HB := Aside0.mk (below_drew1 HB.out)
                 obtain ⟨Ao37, co37, eo37⟩ := Kd.R_slice HO_8.out
                 (first | subst eo37 | (injection eo37 with f1_ f2_ f3_; have f4_ := f1_.symm; have f5_ := f3_.symm; clear f1_ f2_ f3_; subst f4_; subst f5_))
                 refine start_ (n := 7) (S := fun w' => w'.cell? ⟨gb492, 0, none⟩ = some (.int .i64 a0_0) ∧ w'.cell? ⟨gb492, 1, none⟩ = some (.int .u64 a0_1) ∧ w'.cell? ⟨gb492, 2, none⟩ = some (.int .u64 a0_2) ∧ w'.cell? ⟨gb492, 3, none⟩ = some (.int .u64 a0_3) ∧ w'.cell? ⟨gb492, 4, none⟩ = some (.int .u64 a0_4)) (ds := []) #[false, false, false, false, false, false, false] (by kernel_rfl) rfl rfl ⟨(blk_cell BK492.out 0).trans rfl, (blk_cell BK492.out 1).trans rfl, (blk_cell BK492.out 2).trans rfl, (blk_cell BK492.out 3).trans rfl, (blk_cell BK492.out 4).trans rfl⟩ (fun hHeld => ?_)
                 generalize wr.drew = w36 at HO_8 BK492 HB hHeld ⊢
                 refine pure_ (i := 1) (N := some 43) (v := ?_) (a' := ?_) #[false, true, false, false, false, false, false] rfl rfl (by kernel_rfl) (fun _ _ _ h => h) (Or.inl ⟨by rfl, ?_⟩) ?_ ?_
                 rotate_left
                 · intro w'
                   go_simp
                   with_reducible rfl
                 rotate_left
                 · simp only [Act.put, List.setIfInBounds_toArray, List.set_cons_zero, List.set_cons_succ, i64_w, i32_w]
                   rfl
                 refine pure_ (i := 4) (N := some 46) (v := ?_) (a' := ?_) #[false, true, false, false, true, false, false] rfl rfl (by kernel_rfl) (fun _ _ _ h => h) (Or.inl ⟨by rfl, ?_⟩) ?_ ?_
                 rotate_left
                 · intro w'
                   go_simp
                   with_reducible rfl
                 rotate_left
                 · simp only [Act.put, List.setIfInBounds_toArray, List.set_cons_zero, List.set_cons_succ, i64_w, i32_w]
                   rfl
                 refine take_ (i := 0) (N := some 42) (v := ?_) (a' := ?_) #[true, true, false, false, true, false, false] rfl rfl (by kernel_rfl) (fun _ _ _ h => h) (Or.inl ⟨by rfl, ?_⟩) hHeld ?_ ?_
                 rotate_left
                 · rintro w' ⟨s0, s1, s2, s3, s4⟩
                   go_simp
                   with_reducible rfl
                 rotate_left
                 · simp only [Act.put, List.setIfInBounds_toArray, List.set_cons_zero, List.set_cons_succ, i64_w, i32_w]
                   rfl
                 refine take_ (i := 3) (N := some 45) (v := ?_) (a' := ?_) #[true, true, false, true, true, false, false] rfl rfl (by kernel_rfl) (fun _ _ _ h => h) (Or.inl ⟨by rfl, ?_⟩) hHeld ?_ ?_
                 rotate_left
                 · rintro w' ⟨s0, s1, s2, s3, s4⟩
                   go_simp
                   with_reducible rfl
                 rotate_left
                 · simp only [Act.put, List.setIfInBounds_toArray, List.set_cons_zero, List.set_cons_succ, i64_w, i32_w]
                   rfl
                 refine one_ (i := 2) (N := some 44) #[true, true, true, true, true, false, false] rfl rfl (by kernel_rfl) (by decide) (fun K hK => ?_)
                 refine ge Try.func12 #[.agg #[.int .i64 a0_0, .int .u64 a0_1, .int .u64 a0_2, .int .u64 a0_3, .int .u64 a0_4], .slice Ao37 x8_2.length co37] ?_
                 with_reducible refine (audit_Conforms.calls k2 a0_0 a0_1 a0_2 a0_3 a0_4 _ _ x8_2 t503 _ ?side1 ?side2 A29.out).mono ?_
                 (case side1 => exact co (Kd.R_reads' HO_8.out).2.2)
                 (case side2 => exact (Kd.R_reads' HO_8.out).2.1)
                 rintro e w38 ⟨rfl, hb⟩
                 refine ⟨_, rfl, ?_⟩
                 replace HO_8 := Aside0.mk (Kd.R_below (ro HO_8) hb); replace BK492 := bb BK492 hb; replace HB := bs HB hb; (try clear hb); (try clear hb2); (try clear hk); (try clear hi)
                 refine hK.out _ _ ⟨(blk_cell BK492.out 0).trans rfl, (blk_cell BK492.out 1).trans rfl, (blk_cell BK492.out 2).trans rfl, (blk_cell BK492.out 3).trans rfl, (blk_cell BK492.out 4).trans rfl⟩ (fun hHeld => ?_)
                 clear hK K
                 refine norm_ (a' := ?_) ?_ ?_
                 rotate_left
                 · show Act.put _ (some 44) _ = _
                   simp only [Act.put, List.setIfInBounds_toArray, List.set_cons_zero, List.set_cons_succ, i64_w, i32_w]
                   rfl
                 refine one_ (i := 5) (N := some 47) #[true, true, true, true, true, true, false] rfl rfl (by kernel_rfl) (by decide) (fun K hK => ?_)
                 refine ge Try.func13 #[.agg #[.int .i64 a0_0, .int .u64 a0_1, .int .u64 a0_2, .int .u64 a0_3, .int .u64 a0_4], .slice Ao37 x8_2.length co37] ?_
                 with_reducible refine (turnstileref24_Conforms.calls k2 a0_0 a0_1 a0_2 a0_3 a0_4 _ _ x8_2 t504 _ ?side1 ?side2 A30.out).mono ?_
                 (case side1 => exact co (Kd.R_reads' HO_8.out).2.2)
                 (case side2 => exact (Kd.R_reads' HO_8.out).2.1)
                 rintro e w39 ⟨rfl, hb⟩
                 refine ⟨_, rfl, ?_⟩
                 replace HO_8 := Aside0.mk (Kd.R_below (ro HO_8) hb); replace BK492 := bb BK492 hb; replace HB := bs HB hb; (try clear hb); (try clear hb2); (try clear hk); (try clear hi)
                 refine hK.out _ _ ⟨(blk_cell BK492.out 0).trans rfl, (blk_cell BK492.out 1).trans rfl, (blk_cell BK492.out 2).trans rfl, (blk_cell BK492.out 3).trans rfl, (blk_cell BK492.out 4).trans rfl⟩ (fun hHeld => ?_)
                 clear hK K
                 refine norm_ (a' := ?_) ?_ ?_
                 rotate_left
                 · show Act.put _ (some 47) _ = _
                   simp only [Act.put, List.setIfInBounds_toArray, List.set_cons_zero, List.set_cons_succ, i64_w, i32_w]
                   rfl
                 refine pure_ (i := 6) (N := some 48) (v := ?_) (a' := ?_) #[true, true, true, true, true, true, true] rfl rfl (by kernel_rfl) (fun _ _ _ h => h) (Or.inl ⟨by rfl, ?_⟩) ?_ ?_
                 rotate_left
                 · intro w'
                   go_simp
                   with_reducible rfl
                 rotate_left
                 · simp only [Act.put, List.setIfInBounds_toArray, List.set_cons_zero, List.set_cons_succ, i64_w, i32_w]
                   rfl
                 refine done_ (by kernel_rfl) ?_
                 try go_wp2
                 go_loopg [10] k2 (fun kq v10 w' => ∃ (x8_3 : List (S31)) (x10_3 : Int), v10 = .int .i64 x10_3 ∧ Aside0 (turnstilelaw24_AuditJudges.l1 kq x8_3 x9_2 x10_3 a0_0 a0_1 a0_2 a0_3 a0_4 = some r) ∧ Aside0 (kq ≤ k2) ∧ Aside0 (Kd.R k31 31 w' w.heap.size (fun _ => True) (.slice Ao37 x8_2.length co37) x8_3) ∧ Aside0 (w'.heap[gb492]? = some (.cells #[.int .i64 a0_0, .int .u64 a0_1, .int .u64 a0_2, .int .u64 a0_3, .int .u64 a0_4] 24 (0, 0))) ∧ Aside0 (Below w.heap.size w w'))
                 case atStart => exact ⟨(x8_2), (0), rs, H', ⟨Nat.le_refl _⟩, ⟨ro HO_8⟩, ⟨bk BK492⟩, ⟨bw HB⟩⟩
                 case round =>
                  clear H'; (try clear c1); (try clear c2); (try clear p2); (try clear q2); (try clear c3); (try clear c5); (try clear c6); (try clear c6b0); (try clear c6b1); (try clear p6); (try clear c9); (try clear c9b0); (try clear c9b1); (try clear c10); (try clear c11); (try clear c12); (try clear c13); (try clear c14); (try clear c16); (try clear c16b0); (try clear c16b1); (try clear c17); (try clear c17b0); (try clear c17b1); (try clear q21); (try clear c25); (try clear c28); (try clear c28b0); (try clear c31); (try clear c31b0); (try clear c31b1); (try clear c31b2); (try clear p2); (try clear p6); (try clear q2); (try clear q21)
                  obtain ⟨x8_3, x10_3, rfl, HA, HK3, HO_8, BK492, HB⟩ := hrel
                  have hl8_3 := (Kd.R_reads' HO_8.out).1
                  rw [hl8_3] at HO_8
                  (try simp only [hl8_3])
                  (try simp only [hl8_3] at BK492)
                  cases gk with
                  | zero => exact absurd HA.out (by simp [turnstilelaw24_AuditJudges.l1])
                  | succ k3 =>
                   have H := HA.out; clear HA
                   simp only [turnstilelaw24_AuditJudges.l1] at H
                   by_cases c40 : x10_3 < (x8_3.length : Int)
                   · rw [if_pos c40] at H
                     have c40b0 : decide (x10_3 < (x8_3.length : Int)) = true := decide_eq_true c40
                     clear c40
                     by_cases c41 : 0 ≤ x10_3
                     · rw [if_pos c41] at H
                       have c41b0 : decide (0 ≤ x10_3) = true := decide_eq_true c41
                       clear c41
                       obtain ⟨y506, hy506⟩ : ∃ y_ : List (S31), y_ = (x8_3.set (x10_3 : Int).toNat (⟨Go.bits .xor .u64 ((rd_T31 x8_3 x10_3).f0) 3, (rd_T31 x8_3 x10_3).f1⟩ : S31)) := ⟨_, rfl⟩
                       replace H : (turnstilelaw24_AuditJudges.l1 k3 (y506.set (x10_3 : Int).toNat (⟨(rd_T31 y506 x10_3).f0, Go.bits .or .u64 ((rd_T31 y506 x10_3).f1) 1⟩ : S31)) x9_2 (wrap64 (x10_3 + 1)) a0_0 a0_1 a0_2 a0_3 a0_4) = some r := by first | (rw [hy506]; with_reducible exact H) | (have H2_ := (Option.bind_some _ _).symm.trans H; rw [hy506]; with_reducible exact H2_) | (have H2_ := (Option.bind_some _ _).symm.trans H; with_reducible exact H2_) | with_reducible exact H | (rw [hy506]; exact H) | exact H
                       have Ny506 := Aside0.mk hy506; clear hy506
                       obtain ⟨y508, hy508⟩ : ∃ y_ : List (S31), y_ = (y506.set (x10_3 : Int).toNat (⟨(rd_T31 y506 x10_3).f0, Go.bits .or .u64 ((rd_T31 y506 x10_3).f1) 1⟩ : S31)) := ⟨_, rfl⟩
                       replace H : (turnstilelaw24_AuditJudges.l1 k3 y508 x9_2 (wrap64 (x10_3 + 1)) a0_0 a0_1 a0_2 a0_3 a0_4) = some r := by first | (rw [hy508]; with_reducible exact H) | (have H2_ := (Option.bind_some _ _).symm.trans H; rw [hy508]; with_reducible exact H2_) | (have H2_ := (Option.bind_some _ _).symm.trans H; with_reducible exact H2_) | with_reducible exact H | (rw [hy508]; exact H) | exact H
                       have Ny508 := Aside0.mk hy508; clear hy508
                       have H' := Aside0.mk H
                       clear H
                       have p505 : 0 ≤ (x10_3 : Int) := of_decide_eq_true (by first | (with_reducible assumption) | assumption)
                       have q505 : x10_3 < (x8_3.length : Int) := of_decide_eq_true (by first | (with_reducible assumption) | assumption)
                       obtain ⟨ad505, e505, hx505_0, hx505_1⟩ := at_T31 (Kd.R_reads' HO_8.out).2.2 x10_3 p505 q505
                       cases e505
                       replace p505 := eq_true p505; replace q505 := eq_true q505
                       have p42 : 0 ≤ (x10_3 : Int) := of_decide_eq_true (by first | (with_reducible assumption) | assumption)
                       have q42 : (x10_3 : Int) < ((x8_3.length : Int) : Int) := of_decide_eq_true (by first | (with_reducible assumption) | assumption)
                       obtain ⟨go42, co42, eo42, gb42, gl42, cl42, HG42⟩ := Kd.R_form HO_8.out (by omega)
                       (first | cases eo42 | (injection eo42 with ea_ en_ ec_; (first | subst ea_ | (injection ea_ with ea_; subst ea_)); subst ec_; clear en_))
                       have GB42 := Aside0.mk gb42; have GG42 := Aside0.mk HG42; clear gb42 gl42 HG42
                       (first | simp only [add_plain] at hx505_0 | skip)
                       (first | simp only [add_plain] at hx505_1 | skip)
                       obtain ⟨ce42, hcl42, hM42, hcc42, hfr42⟩ := Kd.R_elem HO_8.out z31 (x10_3 : Int) p42 q42
                       obtain rfl := k31_openM hM42
                       have hx42_0 : wr.cell? ⟨go42, (x10_3 : Int).toNat * 2, none⟩ = some (.int .u64 ((rd_T31 x8_3 x10_3).f0)) := hcc42 0 _ rfl
                       have hx42_1 : wr.cell? ⟨go42, (x10_3 : Int).toNat * 2 + 1, none⟩ = some (.int .u64 ((rd_T31 x8_3 x10_3).f1)) := hcc42 1 _ rfl
                       have hf42_0 : wr.frozen? ⟨go42, (x10_3 : Int).toNat * 2, none⟩ = false := hfr42 0
                       have hf42_1 : wr.frozen? ⟨go42, (x10_3 : Int).toNat * 2 + 1, none⟩ = false := hfr42 1
                       clear hcl42 hcc42 hfr42 hM42; replace p42 := eq_true p42; replace q42 := eq_true q42
                       have HX44 := Aside0.mk (show Kd.R k31 31 wr w.heap.size (fun _ => True) (.slice (some ⟨go42, 0, none⟩) x8_3.length co37) x8_3 from (ro HO_8))
                       obtain ⟨ce44, hcl44, hM44, hcc44, hfr44⟩ := Kd.R_elem HX44.out z31 (x10_3 : Int) (of_decide_eq_true (by first | (with_reducible assumption) | assumption)) (by have h_ : (x10_3 : Int) < ((x8_3.length : Int) : Int) := of_decide_eq_true (by first | (with_reducible assumption) | assumption); first | exact h_ | (have e_ := (Kd.R_reads' HO_8.out).1; omega) | simpa using h_)
                       obtain rfl := k31_openM hM44
                       have HP44 := Kd.R_seg HX44.out (x10_3 : Int) (of_decide_eq_true (by first | (with_reducible assumption) | assumption)) (by have h_ : (x10_3 : Int) < ((x8_3.length : Int) : Int) := of_decide_eq_true (by first | (with_reducible assumption) | assumption); first | exact h_ | (have e_ := (Kd.R_reads' HO_8.out).1; omega) | simpa using h_) (seg := [.int .u64 (Go.bits .xor .u64 ((rd_T31 x8_3 x10_3).f0) 3)]) (j := 0) hcl44 hcc44 (show 1 ≤ 2 from by decide) (x' := (⟨Go.bits .xor .u64 ((rd_T31 x8_3 x10_3).f0) 3, (rd_T31 x8_3 x10_3).f1⟩ : S31)) (k31_mkM _ _ _ (⟨Go.bits .xor .u64 ((rd_T31 x8_3 x10_3).f0) 3, (rd_T31 x8_3 x10_3).f1⟩ : S31) ) (fun _ hk => hk)
                       have hx44_0 := hcc44 0 _ rfl
                       (try simp only [show (k31).sz = 2 from rfl, Nat.mul_one, Nat.add_zero] at hx44_0)
                       have hf44_0 := hfr44 0
                       (try simp only [show (k31).sz = 2 from rfl, Nat.mul_one, Nat.add_zero] at hf44_0)
                       clear hcl44 hcc44 hfr44 hM44
                       go_wp2_with (first | ((with_reducible refine gate_store (t := 22) (p := 64) rfl ?_); refine store_event (t := 22) (p := 64) (v := ?vo_w45) (w1 := (wr.setCell ⟨go42, (x10_3 : Int).toNat * 2, none⟩ (.int .u64 (Go.bits .xor .u64 ((rd_T31 x8_3 x10_3).f0) 3)))) ?hg ?ho ?hn ?hr ?_; (case ho => rfl); (case hg => rfl); (case hn => rfl); (case hr => first | (go_simp; done) | (go_simp; rfl)); intro w45 hw; have hg : wr.grownBy w45 (some go42) := (by rw [hw]; exact HP44.2); have hp_ : Kd.R k31 31 w45 w.heap.size (fun _ => True) (.slice (some ⟨go42, 0, none⟩) x8_3.length co37) y506 := (by rw [hw, Ny506.out]; exact HP44.1); clear HP44; have n0_ := Aside0.mk (hp_); have n1_ := Aside0.mk (blk_grown (g := gb492) (o := .cells #[.int .i64 a0_0, .int .u64 a0_1, .int .u64 a0_2, .int .u64 a0_3, .int .u64 a0_4] 24 (0, 0)) (bk BK492) hg (Kd.R_ne HO_8.out BK492.out (by decide))); have n2_ := Aside0.mk ((by rw [hw]; exact below_set (HB.out) GB42.out : Below w.heap.size w w45)); clear HO_8; clear BK492; clear HB; have HO_8 := n0_; have BK492 := n1_; have HB := n2_; clear n0_ n1_ n2_; clear hg hw hp_; have p507 : 0 ≤ (x10_3 : Int) := of_decide_eq_true (by first | (with_reducible assumption) | assumption); have q507 : x10_3 < (y506.length : Int) := (by have h_ : (x10_3 : Int) < ((x8_3.length : Int) : Int) := of_decide_eq_true (by first | (with_reducible assumption) | assumption); first | (have e_ := (Kd.R_reads' HO_8.out).1; omega) | simpa only [Ny506.out, List.length_set] using h_); have ql507 : ((x10_3 : Int) < ((x8_3.length : Int) : Int)) = True := eq_true (of_decide_eq_true (by first | (with_reducible assumption) | assumption)); obtain ⟨ad507, e507, hx507_0, hx507_1⟩ := at_T31 (Kd.R_reads' HO_8.out).2.2 x10_3 p507 q507; obtain rfl : (⟨go42, 0, none⟩ : Addr) = ad507 := (by injection e507); (first | simp only [add_plain] at hx507_0 | simp only [add_at] at hx507_0 | simp only [Addr.add, Nat.zero_add] at hx507_0 | skip); (first | simp only [add_plain] at hx507_1 | simp only [add_at] at hx507_1 | simp only [Addr.add, Nat.zero_add] at hx507_1 | skip); replace p507 := eq_true p507; replace q507 := eq_true q507; have p43 : 0 ≤ (x10_3 : Int) := of_decide_eq_true (by first | (with_reducible assumption) | assumption); have q43 : (x10_3 : Int) < ((x8_3.length : Int) : Int) := of_decide_eq_true (by first | (with_reducible assumption) | assumption); obtain ⟨ce43, hcl43, hM43, hcc43, hfr43⟩ := Kd.R_elem HO_8.out z31 (x10_3 : Int) p43 q43; obtain rfl := k31_openM hM43; have hx43_0 : w45.cell? ⟨go42, (x10_3 : Int).toNat * 2, none⟩ = some (.int .u64 ((rd_T31 y506 x10_3).f0)) := hcc43 0 _ rfl; have hx43_1 : w45.cell? ⟨go42, (x10_3 : Int).toNat * 2 + 1, none⟩ = some (.int .u64 ((rd_T31 y506 x10_3).f1)) := hcc43 1 _ rfl; have hf43_0 : w45.frozen? ⟨go42, (x10_3 : Int).toNat * 2, none⟩ = false := hfr43 0; have hf43_1 : w45.frozen? ⟨go42, (x10_3 : Int).toNat * 2 + 1, none⟩ = false := hfr43 1; clear hcl43 hcc43 hfr43 hM43; replace p43 := eq_true p43; replace q43 := eq_true q43; have HX46 := Aside0.mk (show Kd.R k31 31 w45 w.heap.size (fun _ => True) (.slice (some ⟨go42, 0, none⟩) x8_3.length co37) y506 from (ro HO_8)); obtain ⟨ce46, hcl46, hM46, hcc46, hfr46⟩ := Kd.R_elem HX46.out z31 (x10_3 : Int) (of_decide_eq_true (by first | (with_reducible assumption) | assumption)) (by have h_ : (x10_3 : Int) < ((x8_3.length : Int) : Int) := of_decide_eq_true (by first | (with_reducible assumption) | assumption); first | exact h_ | (have e_ := (Kd.R_reads' HO_8.out).1; omega) | simpa using h_); obtain rfl := k31_openM hM46; have HP46 := Kd.R_seg HX46.out (x10_3 : Int) (of_decide_eq_true (by first | (with_reducible assumption) | assumption)) (by have h_ : (x10_3 : Int) < ((x8_3.length : Int) : Int) := of_decide_eq_true (by first | (with_reducible assumption) | assumption); first | exact h_ | (have e_ := (Kd.R_reads' HO_8.out).1; omega) | simpa using h_) (seg := [.int .u64 (Go.bits .or .u64 ((rd_T31 y506 x10_3).f1) 1)]) (j := 1) hcl46 hcc46 (show 2 ≤ 2 from by decide) (x' := (⟨(rd_T31 y506 x10_3).f0, Go.bits .or .u64 ((rd_T31 y506 x10_3).f1) 1⟩ : S31)) (k31_mkM _ _ _ (⟨(rd_T31 y506 x10_3).f0, Go.bits .or .u64 ((rd_T31 y506 x10_3).f1) 1⟩ : S31) ) (fun _ hk => hk); have hx46_1 := hcc46 1 _ rfl; (try simp only [show (k31).sz = 2 from rfl, Nat.mul_one, Nat.add_zero] at hx46_1); have hf46_1 := hfr46 1; (try simp only [show (k31).sz = 2 from rfl, Nat.mul_one, Nat.add_zero] at hf46_1); clear hcl46 hcc46 hfr46 hM46) | ((with_reducible refine gate_store (t := 22) (p := 74) rfl ?_); refine store_event (t := 22) (p := 74) (v := ?vo_w47) (w1 := (w45.setCell ⟨go42, (x10_3 : Int).toNat * 2 + 1, none⟩ (.int .u64 (Go.bits .or .u64 ((rd_T31 y506 x10_3).f1) 1)))) ?hg ?ho ?hn ?hr ?_; (case ho => rfl); (case hg => rfl); (case hn => rfl); (case hr => first | (go_simp; done) | (go_simp; rfl)); intro w47 hw; have hg : w45.grownBy w47 (some go42) := (by rw [hw]; exact HP46.2); have hp_ : Kd.R k31 31 w47 w.heap.size (fun _ => True) (.slice (some ⟨go42, 0, none⟩) x8_3.length co37) y508 := (by rw [hw, Ny508.out]; exact HP46.1); clear HP46; have n0_ := Aside0.mk (hp_); have n1_ := Aside0.mk (blk_grown (g := gb492) (o := .cells #[.int .i64 a0_0, .int .u64 a0_1, .int .u64 a0_2, .int .u64 a0_3, .int .u64 a0_4] 24 (0, 0)) (bk BK492) hg (Kd.R_ne HO_8.out BK492.out (by decide))); have n2_ := Aside0.mk ((by rw [hw]; exact below_set (HB.out) GB42.out : Below w.heap.size w w47)); clear HO_8; clear BK492; clear HB; have HO_8 := n0_; have BK492 := n1_; have HB := n2_; clear n0_ n1_ n2_; clear hg hw hp_))
                       (try simp only [← hl8_3])
                       go_roundg k3
                       case measure => have := HJ9.out; have := HK2.out; have := HK3.out; omega
                       case rel => exact ⟨(y508), (wrap64 (x10_3 + 1)), rs, H', ⟨by have := HJ9.out; have := HK2.out; have := HK3.out; omega⟩, ⟨by (try simp only [hl8_3]); (with_reducible repeat (first | apply Kd.R_alloc | apply Kd.R_drewN | apply Kd.R_drew)); exact HO_8.out⟩, ⟨by (try simp only [hl8_3]); (with_reducible repeat (first | refine blk_drewN ?_ _ | refine blk_drew ?_ | refine blk_alloc ?_ _)); exact BK492.out⟩, ⟨bw HB⟩⟩
                     · rw [if_neg c41] at H
                       exact absurd H (by simp)
                   · rw [if_neg c40] at H
                     have c40b0 : decide (x10_3 < (x8_3.length : Int)) = false := decide_eq_false c40
                     clear c40
                     have H' := Aside0.mk H
                     clear H
                     go_wp2
                     (try simp only [← hl8_3])
                     go_roundg k3
                     case measure => have := HJ9.out; have := HK2.out; have := HK3.out; omega
                     case rel => exact ⟨(x8_3), (wrap64 (x9_2 + 1)), rs, H', ⟨by have := HJ9.out; have := HK2.out; have := HK3.out; omega⟩, ⟨by (try simp only [hl8_3]); (with_reducible repeat (first | apply Kd.R_alloc | apply Kd.R_drewN | apply Kd.R_drew)); exact HO_8.out⟩, ⟨by (try simp only [hl8_3]); (with_reducible repeat (first | refine blk_drewN ?_ _ | refine blk_drew ?_ | refine blk_alloc ?_ _)); exact BK492.out⟩, ⟨bw HB⟩⟩
             · rw [if_neg c28] at H
               have c28b0 : decide (x9_2 < 2) = false := decide_eq_false c28
               clear c28
               obtain rfl := Option.some.inj H
               go_wp2
               go_ret
               exact ⟨re, bw HB⟩
 · replace c5 := Bool.eq_false_iff.mpr c5
   subst c5
   have H1 : (some false) = some r := by rw [if_neg (show ¬ (false = true) by decide)] at H; exact H
   clear H; have H := H1; clear H1
   obtain rfl := Option.some.inj H
   go_enter Try.func3, Try.ntmps3
   go_wp2_with (first | ((with_reducible refine gate_dst (N := 3) rfl ?_); refine bx 3 #[.int .i64 a0_0, .int .u64 a0_1, .int .u64 a0_2, .int .u64 a0_3, .int .u64 a0_4] 24 ?_; intro gb492 hg w48 hbox hb; have BK492 := Aside0.mk (hbox); have GW492 := sz HB hg; have GE492 := sz HB hg; replace HB := bs HB hb; clear hb hbox hg) | ((with_reducible refine gate_callee (f := 9) rfl ?_); refine gm (some 11) Try.func9 #[] (turnstilelaw24_awake.calls k  false _ A4.out) ?_; intro w49 hb; replace BK492 := bb BK492 hb; replace HB := bs HB hb; (try clear hb); (try clear hb2); (try clear hk); (try clear hi)))
   go_ret
   exact ⟨re, bw HB⟩


end Go.Proofs.Ytdoifmefhofnnaa.D
