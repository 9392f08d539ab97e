/- Written by the session's own program hyb.py: what functions of the program compute; Lean checks it. -/
import Derived.Test.YtdoifmefhofnnaaDx0
import Derived.Test.YtdoifmefhofnnaaDx8
import Derived.Test.YtdoifmefhofnnaaDx22
import Derived.Test.YtdoifmefhofnnaaDx25
import Derived.Test.YtdoifmefhofnnaaDx40
import Derived.Test.YtdoifmefhofnnaaWMake
namespace Go.Proofs.Ytdoifmefhofnnaa.D
open Go.RowKit Go.Proofs.YtdoifmefhofnnaaW.PrintWords Go.Proofs.YtdoifmefhofnnaaW.PrintLast Go.Proofs.YtdoifmefhofnnaaW.PrintMore Go.Proofs.YtdoifmefhofnnaaW.PrintShort
attribute [local go_sem] run_Add64 run_Sub64
attribute [local go_sem] max2_int min2_int max_two min_two max_three min_three max_four min_four   -- for this text's walks alone
set_option linter.unusedVariables false
set_option linter.unusedSimpArgs false

/-! ### turnstilelaw24_AuditGrows: function 7 -/
mutual
def turnstilelaw24_AuditGrows.j0 : Nat → List (S31) → Int → Int → Bool → Int → Int → Int → Int → Int → Option (Bool)
  | 0, _, _, _, _, _, _, _, _, _ => none
  | k + 1, x4, x5, x6, x29, x709000, x709001, x709002, x709003, x709004 => if x29 = true then (some true) else (if (IntKind.u64.wrap (wrap64 ((x4.length : Int) + 1))) = 0 then (none) else (if 0 ≤ (wrap64 (Int.tmod (IntKind.u64.wrap (x5)) (IntKind.u64.wrap (wrap64 ((x4.length : Int) + 1))))) then (if (wrap64 (Int.tmod (IntKind.u64.wrap (x5)) (IntKind.u64.wrap (wrap64 ((x4.length : Int) + 1))))) ≤ (x4.length : Int) then ((audit_Conforms.f k x709000 x709001 x709002 x709003 x709004 (x4.take ((wrap64 (Int.tmod (IntKind.u64.wrap (x5)) (IntKind.u64.wrap (wrap64 ((x4.length : Int) + 1))))) : Int).toNat)).bind fun t714 => (if t714 = true then (if x709000 = 1 then ((sat_Add.f x709002 x6).bind fun t716 => ((sat_Sub.f x709001 1).bind fun t717 => (turnstilelaw24_AuditGrows.j1 k x4 x6 x709000 x709001 x709002 x709003 x709004 x709000 (IntKind.u64.wrap (1 + (IntKind.u64.wrap (Int.tdiv t717 2)))) t716 x709003 x709004))) else (if x709000 = 2 then ((sat_Add.f x709003 x6).bind fun t718 => (turnstilelaw24_AuditGrows.j1 k x4 x6 x709000 x709001 x709002 x709003 x709004 x709000 x709001 x709002 t718 x709004)) else (turnstilelaw24_AuditGrows.j1 k x4 x6 x709000 x709001 x709002 x709003 x709004 x709000 x709001 x709002 x709003 x709004))) else (some false))) else (none)) else (none)))
def turnstilelaw24_AuditGrows.j1 : Nat → List (S31) → Int → Int → Int → Int → Int → Int → Int → Int → Int → Int → Int → Option (Bool)
  | 0, _, _, _, _, _, _, _, _, _, _, _, _ => none
  | k + 1, x4, x6, x709000, x709001, x709002, x709003, x709004, x716000, x716001, x716002, x716003, x716004 => (audit_Conforms.f k x716000 x716001 x716002 x716003 x716004 x4).bind fun t719 => (if t719 = true then (if (x4.length : Int) = 0 then (some true) else (if 0 ≤ (x4.length : Int) then (if ((x4.length : Int) : Int).toNat ≤ 17592186044416 then ((some (List.replicate 0 z31 : List (S31))).bind fun y720 => (if y720.length + x4.length < 8796093022208 then ((some (y720 ++ x4 : List (S31))).bind fun y723 => (if 0 ≤ (wrap64 ((y723.length : Int) - 1)) then (if (wrap64 ((y723.length : Int) - 1)) < (y723.length : Int) then ((some (y723.set ((wrap64 ((y723.length : Int) - 1)) : Int).toNat (⟨(rd_T31 y723 (wrap64 ((y723.length : Int) - 1))).f0, IntKind.u64.wrap (1 + (IntKind.u64.wrap (Int.tdiv (IntKind.u64.wrap (((rd_T31 y723 (wrap64 ((y723.length : Int) - 1))).f1) - 1)) 2)))⟩ : S31) : List (S31))).bind fun y727 => ((audit_Conforms.f k x709000 x709001 x709002 x709003 x709004 y727).bind fun t728 => (if t728 = true then (if (wrap64 ((y723.length : Int) - 1)) < (x4.length : Int) then ((some (y727.set ((wrap64 ((y723.length : Int) - 1)) : Int).toNat (⟨(rd_T31 y727 (wrap64 ((y723.length : Int) - 1))).f0, (rd_T31 x4 (wrap64 ((y723.length : Int) - 1))).f1⟩ : S31) : List (S31))).bind fun y730 => ((sat_Add.f ((rd_T31 y730 (wrap64 ((y723.length : Int) - 1))).f0) x6).bind fun t732 => (if x709000 = 1 then ((audit_Conforms.f k x709000 x709001 x709002 x709003 x709004 (y730.set ((wrap64 ((y723.length : Int) - 1)) : Int).toNat (⟨t732, (rd_T31 y730 (wrap64 ((y723.length : Int) - 1))).f1⟩ : S31))).bind fun t734 => (some t734)) else (some true)))) else (none)) else (some false)))) else (none)) else (none))) else (none))) else (none)) else (none))) else (some false))
end
def turnstilelaw24_AuditGrows.f (k : Nat) (a0_0 : Int) (a0_1 : Int) (a0_2 : Int) (a0_3 : Int) (a0_4 : Int) (l0_5 : List (S31)) (a0_6 : Int) (a0_7 : Int) : Option (Bool) := (turnstilelaw24_awake.f k).bind fun t707 => (if t707 = true then (if (l0_5.length : Int) > 1048576 then (turnstilelaw24_AuditGrows.j0 k l0_5 a0_6 a0_7 true a0_0 a0_1 a0_2 a0_3 a0_4) else ((audit_Conforms.f k a0_0 a0_1 a0_2 a0_3 a0_4 l0_5).bind fun t709 => (turnstilelaw24_AuditGrows.j0 k l0_5 a0_6 a0_7 (!t709) a0_0 a0_1 a0_2 a0_3 a0_4))) else (some false))
theorem turnstilelaw24_AuditGrows.mono_l : ∀ k, (∀ y0 y1 y2 y3 y4 y5 y6 y7 y8, LeO (turnstilelaw24_AuditGrows.j0 k y0 y1 y2 y3 y4 y5 y6 y7 y8) (turnstilelaw24_AuditGrows.j0 (k + 1) y0 y1 y2 y3 y4 y5 y6 y7 y8)) ∧ (∀ y0 y1 y2 y3 y4 y5 y6 y7 y8 y9 y10 y11, LeO (turnstilelaw24_AuditGrows.j1 k y0 y1 y2 y3 y4 y5 y6 y7 y8 y9 y10 y11) (turnstilelaw24_AuditGrows.j1 (k + 1) y0 y1 y2 y3 y4 y5 y6 y7 y8 y9 y10 y11))
  | 0 => ⟨fun _ _ _ _ _ _ _ _ _ r h => by simp [turnstilelaw24_AuditGrows.j0] at h, fun _ _ _ _ _ _ _ _ _ _ _ _ r h => by simp [turnstilelaw24_AuditGrows.j1] at h⟩
  | k + 1 => by
    obtain ⟨ih0, ih1⟩ := turnstilelaw24_AuditGrows.mono_l k
    refine ⟨?_, ?_⟩
    · intro y0 y1 y2 y3 y4 y5 y6 y7 y8
      unfold turnstilelaw24_AuditGrows.j0
      repeat' first
      | (with_reducible exact ih0 _ _ _ _ _ _ _ _ _)
      | (with_reducible exact ih1 _ _ _ _ _ _ _ _ _ _ _ _)
      | (with_reducible exact audit_Conforms.mono _ _ _ _ _ _ _)
      | (with_reducible exact turnstilelaw24_awake.mono _)
      | (with_reducible exact LeO.refl _)
      | (with_reducible exact LeO.none _)
      | (with_reducible refine LeO.ite ?_ ?_)
      | (with_reducible refine LeO.bind ?_ (fun _ => ?_))
      | exact ih0 _ _ _ _ _ _ _ _ _
      | exact ih1 _ _ _ _ _ _ _ _ _ _ _ _
      | exact audit_Conforms.mono _ _ _ _ _ _ _
      | exact turnstilelaw24_awake.mono _
      | exact LeO.none _
      | refine LeO.ite ?_ ?_
      | refine LeO.bind ?_ (fun _ => ?_)
    · intro y0 y1 y2 y3 y4 y5 y6 y7 y8 y9 y10 y11
      unfold turnstilelaw24_AuditGrows.j1
      repeat' first
      | (with_reducible exact ih0 _ _ _ _ _ _ _ _ _)
      | (with_reducible exact ih1 _ _ _ _ _ _ _ _ _ _ _ _)
      | (with_reducible exact audit_Conforms.mono _ _ _ _ _ _ _)
      | (with_reducible exact turnstilelaw24_awake.mono _)
      | (with_reducible exact LeO.refl _)
      | (with_reducible exact LeO.none _)
      | (with_reducible refine LeO.ite ?_ ?_)
      | (with_reducible refine LeO.bind ?_ (fun _ => ?_))
      | exact ih0 _ _ _ _ _ _ _ _ _
      | exact ih1 _ _ _ _ _ _ _ _ _ _ _ _
      | exact audit_Conforms.mono _ _ _ _ _ _ _
      | exact turnstilelaw24_awake.mono _
      | exact LeO.none _
      | refine LeO.ite ?_ ?_
      | refine LeO.bind ?_ (fun _ => ?_)
theorem turnstilelaw24_AuditGrows.mono : ∀ a0 a1 a2 a3 a4 a5 a6 a7 k, LeO (turnstilelaw24_AuditGrows.f k a0 a1 a2 a3 a4 a5 a6 a7) (turnstilelaw24_AuditGrows.f (k + 1) a0 a1 a2 a3 a4 a5 a6 a7) := by
  intro a0 a1 a2 a3 a4 a5 a6 a7 k
  obtain ⟨ih0, ih1⟩ := turnstilelaw24_AuditGrows.mono_l k
  unfold turnstilelaw24_AuditGrows.f
  repeat' first
      | (with_reducible exact ih0 _ _ _ _ _ _ _ _ _)
      | (with_reducible exact ih1 _ _ _ _ _ _ _ _ _ _ _ _)
      | (with_reducible exact audit_Conforms.mono _ _ _ _ _ _ _)
      | (with_reducible exact turnstilelaw24_awake.mono _)
      | (with_reducible exact LeO.refl _)
      | (with_reducible exact LeO.none _)
      | (with_reducible refine LeO.ite ?_ ?_)
      | (with_reducible refine LeO.bind ?_ (fun _ => ?_))
      | exact ih0 _ _ _ _ _ _ _ _ _
      | exact ih1 _ _ _ _ _ _ _ _ _ _ _ _
      | exact audit_Conforms.mono _ _ _ _ _ _ _
      | exact turnstilelaw24_awake.mono _
      | exact LeO.none _
      | refine LeO.ite ?_ ?_
      | refine LeO.bind ?_ (fun _ => ?_)
set_option maxHeartbeats 8000000 in
set_option maxRecDepth 100000 in
theorem turnstilelaw24_AuditGrows.calls (k : Nat) (a0_0 : Int) (a0_1 : Int) (a0_2 : Int) (a0_3 : Int) (a0_4 : Int) (A0_5 : Option Addr) (c0_5 : Nat) (l0_5 : List (S31)) (a0_6 : Int) (a0_7 : Int) (r : Bool) (w : World) (hr0_5 : Kd.C k31 w A0_5 l0_5.length l0_5) (hc0_5 : l0_5.length ≤ c0_5) (h : turnstilelaw24_AuditGrows.f k a0_0 a0_1 a0_2 a0_3 a0_4 l0_5 a0_6 a0_7 = some r) :
    Calls Try.prog 7 #[.agg #[.int .i64 a0_0, .int .u64 a0_1, .int .u64 a0_2, .int .u64 a0_3, .int .u64 a0_4, .slice A0_5 l0_5.length c0_5, .int .i64 a0_6, .int .u64 a0_7]] w fun e w' => e = .returned (.bool r) ∧ Below w.heap.size w w' := by
  have hu55 := Try.underlying55
  have hu24 := Try.underlying24
  have HR0_5 := Aside0.mk hr0_5
  have HC0_5 := Aside0.mk hc0_5
  clear hr0_5 hc0_5
  have HB := Aside0.mk (Below.refl w.heap.size w)
  have H : ((turnstilelaw24_awake.f k).bind fun t707 => (if t707 = true then (if (l0_5.length : Int) > 1048576 then (turnstilelaw24_AuditGrows.j0 k l0_5 a0_6 a0_7 true a0_0 a0_1 a0_2 a0_3 a0_4) else ((audit_Conforms.f k a0_0 a0_1 a0_2 a0_3 a0_4 l0_5).bind fun t709 => (turnstilelaw24_AuditGrows.j0 k l0_5 a0_6 a0_7 (!t709) a0_0 a0_1 a0_2 a0_3 a0_4))) else (some false))) = some r := h
  clear h
  replace H := Option.bind_eq_some_iff.mp H
  obtain ⟨t707, A20, H⟩ := H
  replace H : (if t707 = true then (if (l0_5.length : Int) > 1048576 then (turnstilelaw24_AuditGrows.j0 k l0_5 a0_6 a0_7 true a0_0 a0_1 a0_2 a0_3 a0_4) else ((audit_Conforms.f k a0_0 a0_1 a0_2 a0_3 a0_4 l0_5).bind fun t709 => (turnstilelaw24_AuditGrows.j0 k l0_5 a0_6 a0_7 (!t709) a0_0 a0_1 a0_2 a0_3 a0_4))) else (some false)) = some r := H
  have A2 := Aside0.mk A20
  clear A20
  by_cases c3 : t707 = true
  · subst c3
    have H1 : (if (l0_5.length : Int) > 1048576 then (turnstilelaw24_AuditGrows.j0 k l0_5 a0_6 a0_7 true a0_0 a0_1 a0_2 a0_3 a0_4) else ((audit_Conforms.f k a0_0 a0_1 a0_2 a0_3 a0_4 l0_5).bind fun t709 => (turnstilelaw24_AuditGrows.j0 k l0_5 a0_6 a0_7 (!t709) a0_0 a0_1 a0_2 a0_3 a0_4))) = some r := by rw [if_pos rfl] at H; exact H
    clear H
    have H := H1
    clear H1
    have HC4 := Aside0.mk H
    clear H
    go_enter Try.func7, Try.ntmps7
    go_upto_region 7 with (first | ((with_reducible refine gate_dst (N := 1) rfl ?_); refine bx 1 #[.int .i64 a0_0, .int .u64 a0_1, .int .u64 a0_2, .int .u64 a0_3, .int .u64 a0_4, .slice A0_5 l0_5.length c0_5, .int .i64 a0_6, .int .u64 a0_7] 55 ?_; intro gb706 hg w5 hbox hb; have n0_ := bs HB hb; have n1_ := Aside0.mk (hbox); have n2_ := sz HB hg; have n3_ := sz HB hg; clear HB; have HB := n0_; have BK706 := n1_; have GW706 := n2_; have GE706 := n3_; clear n0_ n1_ n2_ n3_; clear hb hbox hg) | ((with_reducible refine gate_callee (f := 9) rfl ?_); refine gm (some 11) Try.func9 #[] (turnstilelaw24_awake.calls k  true _ A2.out) ?_; intro w6 hb; have n0_ := bb BK706 hb; have n1_ := bs HB hb; clear BK706; clear HB; have BK706 := n0_; have HB := n1_; clear n0_ n1_; (try clear hb); (try clear hb2); (try clear hk); (try clear hi); have hcz7_0 : w6.cell? ⟨gb706, 0, none⟩ = some (.int .i64 a0_0) := (blk_cell BK706.out 0).trans rfl; have hcz7_1 : w6.cell? ⟨gb706, 1, none⟩ = some (.int .u64 a0_1) := (blk_cell BK706.out 1).trans rfl; have hcz7_2 : w6.cell? ⟨gb706, 2, none⟩ = some (.int .u64 a0_2) := (blk_cell BK706.out 2).trans rfl; have hcz7_3 : w6.cell? ⟨gb706, 3, none⟩ = some (.int .u64 a0_3) := (blk_cell BK706.out 3).trans rfl; have hcz7_4 : w6.cell? ⟨gb706, 4, none⟩ = some (.int .u64 a0_4) := (blk_cell BK706.out 4).trans rfl; have hcz7_5 : w6.cell? ⟨gb706, 5, none⟩ = some (.slice A0_5 l0_5.length c0_5) := (blk_cell BK706.out 5).trans rfl; have hcz7_6 : w6.cell? ⟨gb706, 6, none⟩ = some (.int .i64 a0_6) := (blk_cell BK706.out 6).trans rfl; have hcz7_7 : w6.cell? ⟨gb706, 7, none⟩ = some (.int .u64 a0_7) := (blk_cell BK706.out 7).trans rfl; have hfz7_0 := blk_frozen BK706.out 0; have hfz7_1 := blk_frozen BK706.out 1; have hfz7_2 := blk_frozen BK706.out 2; have hfz7_3 := blk_frozen BK706.out 3; have hfz7_4 := blk_frozen BK706.out 4; have hfz7_5 := blk_frozen BK706.out 5; have hfz7_6 := blk_frozen BK706.out 6; have hfz7_7 := blk_frozen BK706.out 7) | ((with_reducible refine gate_dst (N := 3) rfl ?_); refine bx 3 #[.int .i64 0, .int .u64 0, .int .u64 0, .int .u64 0, .int .u64 0] 24 ?_; intro gb708 hg w8 hbox hb; have n0_ := bb BK706 hb; have n1_ := bs HB hb; have n2_ := Aside0.mk (hbox); have n3_ := sz HB hg; have n4_ := sz HB hg; have n5_ := nl BK706 hg; have n6_ := nr BK706 hg; clear BK706; clear HB; have BK706 := n0_; have HB := n1_; have BK708 := n2_; have GW708 := n3_; have GE708 := n4_; have NB706_708 := n5_; have NB708_706 := n6_; clear n0_ n1_ n2_ n3_ n4_ n5_ n6_; clear hb hbox hg; have hnb9 := NB708_706.out; have hnc9 := NB706_708.out; obtain ⟨hcz10_0, hcz10_1, hcz10_2, hcz10_3, hcz10_4, hfz10_0, hfz10_1, hfz10_2, hfz10_3, hfz10_4⟩ := bc5 BK708; have hcz11_0 : w8.cell? ⟨gb706, 0, none⟩ = some (.int .i64 a0_0) := (blk_cell BK706.out 0).trans rfl; have hcz11_1 : w8.cell? ⟨gb706, 1, none⟩ = some (.int .u64 a0_1) := (blk_cell BK706.out 1).trans rfl; have hcz11_2 : w8.cell? ⟨gb706, 2, none⟩ = some (.int .u64 a0_2) := (blk_cell BK706.out 2).trans rfl; have hcz11_3 : w8.cell? ⟨gb706, 3, none⟩ = some (.int .u64 a0_3) := (blk_cell BK706.out 3).trans rfl; have hcz11_4 : w8.cell? ⟨gb706, 4, none⟩ = some (.int .u64 a0_4) := (blk_cell BK706.out 4).trans rfl; have hcz11_5 : w8.cell? ⟨gb706, 5, none⟩ = some (.slice A0_5 l0_5.length c0_5) := (blk_cell BK706.out 5).trans rfl; have hcz11_6 : w8.cell? ⟨gb706, 6, none⟩ = some (.int .i64 a0_6) := (blk_cell BK706.out 6).trans rfl; have hcz11_7 : w8.cell? ⟨gb706, 7, none⟩ = some (.int .u64 a0_7) := (blk_cell BK706.out 7).trans rfl; have hfz11_0 := blk_frozen BK706.out 0; have hfz11_1 := blk_frozen BK706.out 1; have hfz11_2 := blk_frozen BK706.out 2; have hfz11_3 := blk_frozen BK706.out 3; have hfz11_4 := blk_frozen BK706.out 4; have hfz11_5 := blk_frozen BK706.out 5; have hfz11_6 := blk_frozen BK706.out 6; have hfz11_7 := blk_frozen BK706.out 7))
    (try simp only [Act.put, List.setIfInBounds_toArray, List.set_cons_zero, List.set_cons_succ])
    go_cut [29] (fun v29 wc => ∃ (kq : Nat) (x29_3 : Bool), v29 = .bool x29_3 ∧ Aside0 (turnstilelaw24_AuditGrows.j0 kq l0_5 a0_6 a0_7 x29_3 a0_0 a0_1 a0_2 a0_3 a0_4 = some r) ∧ Aside0 (kq ≤ k) ∧ Aside0 (wc.heap[gb706]? = some (.cells #[.int .i64 a0_0, .int .u64 a0_1, .int .u64 a0_2, .int .u64 a0_3, .int .u64 a0_4, (.slice A0_5 l0_5.length c0_5), .int .i64 a0_6, .int .u64 a0_7] 55 (0, 0))) ∧ Aside0 (wc.heap[gb708]? = some (.cells #[.int .i64 a0_0, .int .u64 a0_1, .int .u64 a0_2, .int .u64 a0_3, .int .u64 a0_4] 24 (0, 0))) ∧ Aside0 (Below w.heap.size w wc))
    case first =>
      have H := HC4.out
      clear HC4
      by_cases c12 : (l0_5.length : Int) > 1048576
      · rw [if_pos c12] at H
        have c12b0 : decide (1048576 < (l0_5.length : Int)) = true := decide_eq_true c12
        have c12b1 : decide (1048576 < l0_5.length) = true := decide_eq_true (by omega)
        clear c12
        (first | rw [c12b0] | (simp only [i64_w, i32_w]; rw [c12b0]) | skip)
        have H' := Aside0.mk H
        clear H
        go_wp2
        go_meet
        case rel => exact ⟨_, (true), rs, H', ⟨by first | omega | exact Nat.le_refl _⟩, ⟨bk BK706⟩, ⟨bk BK708⟩, ⟨bw HB⟩⟩
      · rw [if_neg c12] at H
        have c12b0 : decide (1048576 < (l0_5.length : Int)) = false := decide_eq_false c12
        have c12b1 : decide (1048576 < l0_5.length) = false := decide_eq_false (by omega)
        clear c12
        (first | rw [c12b0] | (simp only [i64_w, i32_w]; rw [c12b0]) | skip)
        replace H := Option.bind_eq_some_iff.mp H
        obtain ⟨t709, A130, H⟩ := H
        replace H : (turnstilelaw24_AuditGrows.j0 k l0_5 a0_6 a0_7 (!t709) a0_0 a0_1 a0_2 a0_3 a0_4) = some r := H
        have A13 := Aside0.mk A130
        clear A130
        have H' := Aside0.mk H
        clear H
        have hnb14 := NB708_706.out
        have hnc14 := NB706_708.out
        obtain ⟨hcz15_0, hcz15_1, hcz15_2, hcz15_3, hcz15_4, hfz15_0, hfz15_1, hfz15_2, hfz15_3, hfz15_4⟩ := bc5 BK708
        go_wp2_with (first | (go_at_call 12; (with_reducible refine (audit_Conforms.calls k a0_0 a0_1 a0_2 a0_3 a0_4 _ _ l0_5 t709 _ ?side1 ?side2 A13.out).mono ?_); (case side1 => exact Kd.C_below HR0_5.out (bw HB)); (case side2 => exact HC0_5.out); rintro e w16 ⟨rfl, hb⟩; have n0_ := bb BK706 hb; have n1_ := bbp (.cells #[.int .i64 a0_0, .int .u64 a0_1, .int .u64 a0_2, .int .u64 a0_3, .int .u64 a0_4] 24 (0, 0)) BK708 hb; have n2_ := bs HB hb; clear BK706; clear BK708; clear HB; have BK706 := n0_; have BK708 := n1_; have HB := n2_; clear n0_ n1_ n2_; (try clear hb); (try clear hb2); (try clear hk); (try clear hi)))
        go_meet
        case rel => exact ⟨_, (!t709), rs, H', ⟨by first | omega | exact Nat.le_refl _⟩, ⟨bk BK706⟩, ⟨bk BK708⟩, ⟨bw HB⟩⟩
    case rest =>
      clear HC4
      try clear c1
      try clear p2
      try clear c3
      try clear c7
      try clear c9
      try clear c12
      try clear c12b0
      try clear c12b1
      try clear c14
      try clear hcz10_0
      try clear hcz10_1
      try clear hcz10_2
      try clear hcz10_3
      try clear hcz10_4
      try clear hcz11_0
      try clear hcz11_1
      try clear hcz11_2
      try clear hcz11_3
      try clear hcz11_4
      try clear hcz11_5
      try clear hcz11_6
      try clear hcz11_7
      try clear hcz15_0
      try clear hcz15_1
      try clear hcz15_2
      try clear hcz15_3
      try clear hcz15_4
      try clear hcz7_0
      try clear hcz7_1
      try clear hcz7_2
      try clear hcz7_3
      try clear hcz7_4
      try clear hcz7_5
      try clear hcz7_6
      try clear hcz7_7
      try clear hfz10_0
      try clear hfz10_1
      try clear hfz10_2
      try clear hfz10_3
      try clear hfz10_4
      try clear hfz11_0
      try clear hfz11_1
      try clear hfz11_2
      try clear hfz11_3
      try clear hfz11_4
      try clear hfz11_5
      try clear hfz11_6
      try clear hfz11_7
      try clear hfz15_0
      try clear hfz15_1
      try clear hfz15_2
      try clear hfz15_3
      try clear hfz15_4
      try clear hfz7_0
      try clear hfz7_1
      try clear hfz7_2
      try clear hfz7_3
      try clear hfz7_4
      try clear hfz7_5
      try clear hfz7_6
      try clear hfz7_7
      obtain ⟨kq, x29_3, rfl, HA, HJ3, BK706, BK708, HB⟩ := hcut
      cases kq with
      | zero => exact absurd HA.out (by simp [turnstilelaw24_AuditGrows.j0])
      | succ kj3 =>
        have H := HA.out
        clear HA
        simp only [turnstilelaw24_AuditGrows.j0] at H
        by_cases c17 : x29_3 = true
        · subst c17
          have H1 : (some true) = some r := by rw [if_pos rfl] at H; exact H
          clear H
          have H := H1
          clear H1
          obtain rfl := Option.some.inj H
          go_wp2
          go_ret
          exact ⟨re, bw HB⟩
        · replace c17 := Bool.eq_false_iff.mpr c17
          subst c17
          have H1 : (if (IntKind.u64.wrap (wrap64 ((l0_5.length : Int) + 1))) = 0 then (none) else (if 0 ≤ (wrap64 (Int.tmod (IntKind.u64.wrap (a0_6)) (IntKind.u64.wrap (wrap64 ((l0_5.length : Int) + 1))))) then (if (wrap64 (Int.tmod (IntKind.u64.wrap (a0_6)) (IntKind.u64.wrap (wrap64 ((l0_5.length : Int) + 1))))) ≤ (l0_5.length : Int) then ((audit_Conforms.f kj3 a0_0 a0_1 a0_2 a0_3 a0_4 (l0_5.take ((wrap64 (Int.tmod (IntKind.u64.wrap (a0_6)) (IntKind.u64.wrap (wrap64 ((l0_5.length : Int) + 1))))) : Int).toNat)).bind fun t714 => (if t714 = true then (if a0_0 = 1 then ((sat_Add.f a0_2 a0_7).bind fun t716 => ((sat_Sub.f a0_1 1).bind fun t717 => (turnstilelaw24_AuditGrows.j1 kj3 l0_5 a0_7 a0_0 a0_1 a0_2 a0_3 a0_4 a0_0 (IntKind.u64.wrap (1 + (IntKind.u64.wrap (Int.tdiv t717 2)))) t716 a0_3 a0_4))) else (if a0_0 = 2 then ((sat_Add.f a0_3 a0_7).bind fun t718 => (turnstilelaw24_AuditGrows.j1 kj3 l0_5 a0_7 a0_0 a0_1 a0_2 a0_3 a0_4 a0_0 a0_1 a0_2 t718 a0_4)) else (turnstilelaw24_AuditGrows.j1 kj3 l0_5 a0_7 a0_0 a0_1 a0_2 a0_3 a0_4 a0_0 a0_1 a0_2 a0_3 a0_4))) else (some false))) else (none)) else (none))) = some r := by rw [if_neg (show ¬ (false = true) by decide)] at H; exact H
          clear H
          have H := H1
          clear H1
          by_cases c18 : (IntKind.u64.wrap (wrap64 ((l0_5.length : Int) + 1))) = 0
          · rw [if_pos c18] at H
            exact absurd H (by simp)
          · rw [if_neg c18] at H
            have c18b0 : ((IntKind.u64.wrap (wrap64 ((l0_5.length : Int) + 1))) == 0) = false := beq_eq_false_iff_ne.mpr c18
            have c18b1 : ((IntKind.u64.wrap (wrap64 ((l0_5.length : Int) + 1))) != 0) = true := bne_iff_ne.mpr c18
            obtain ⟨ji19, hji19⟩ : ∃ j_ : Int, (wrap64 (Int.tmod (IntKind.u64.wrap (a0_6)) (IntKind.u64.wrap (wrap64 ((l0_5.length : Int) + 1))))) = j_ := ⟨_, rfl⟩
            replace H : (if 0 ≤ (ji19) then (if (ji19) ≤ (l0_5.length : Int) then ((audit_Conforms.f kj3 a0_0 a0_1 a0_2 a0_3 a0_4 (l0_5.take ((ji19) : Int).toNat)).bind fun t714 => (if t714 = true then (if a0_0 = 1 then ((sat_Add.f a0_2 a0_7).bind fun t716 => ((sat_Sub.f a0_1 1).bind fun t717 => (turnstilelaw24_AuditGrows.j1 kj3 l0_5 a0_7 a0_0 a0_1 a0_2 a0_3 a0_4 a0_0 (IntKind.u64.wrap (1 + (IntKind.u64.wrap (Int.tdiv t717 2)))) t716 a0_3 a0_4))) else (if a0_0 = 2 then ((sat_Add.f a0_3 a0_7).bind fun t718 => (turnstilelaw24_AuditGrows.j1 kj3 l0_5 a0_7 a0_0 a0_1 a0_2 a0_3 a0_4 a0_0 a0_1 a0_2 t718 a0_4)) else (turnstilelaw24_AuditGrows.j1 kj3 l0_5 a0_7 a0_0 a0_1 a0_2 a0_3 a0_4 a0_0 a0_1 a0_2 a0_3 a0_4))) else (some false))) else (none)) else (none)) = some r := by first | (rw [hji19] at H; exact H) | (simp only [hji19] at H ⊢; exact H)
            have hji19w : (IntKind.i64.wrap (Int.tmod (IntKind.u64.wrap (a0_6)) (IntKind.u64.wrap (wrap64 ((l0_5.length : Int) + 1))))) = ji19 := (i64_w _).trans hji19
            by_cases c20 : 0 ≤ (ji19)
            · rw [if_pos c20] at H
              have c20b0 := eq_true c20
              have c20b1 : decide (0 ≤ (ji19)) = true := decide_eq_true c20
              clear c20
              by_cases c21 : (ji19) ≤ (l0_5.length : Int)
              · rw [if_pos c21] at H
                have c21b0 := eq_true c21
                have c21b1 : decide ((ji19) ≤ (l0_5.length : Int)) = true := decide_eq_true c21
                clear c21
                obtain ⟨y710, hy710⟩ : ∃ y_ : List (S31), y_ = (l0_5.take ((ji19) : Int).toNat) := ⟨_, rfl⟩
                replace H : ((audit_Conforms.f kj3 a0_0 a0_1 a0_2 a0_3 a0_4 y710).bind fun t714 => (if t714 = true then (if a0_0 = 1 then ((sat_Add.f a0_2 a0_7).bind fun t716 => ((sat_Sub.f a0_1 1).bind fun t717 => (turnstilelaw24_AuditGrows.j1 kj3 l0_5 a0_7 a0_0 a0_1 a0_2 a0_3 a0_4 a0_0 (IntKind.u64.wrap (1 + (IntKind.u64.wrap (Int.tdiv t717 2)))) t716 a0_3 a0_4))) else (if a0_0 = 2 then ((sat_Add.f a0_3 a0_7).bind fun t718 => (turnstilelaw24_AuditGrows.j1 kj3 l0_5 a0_7 a0_0 a0_1 a0_2 a0_3 a0_4 a0_0 a0_1 a0_2 t718 a0_4)) else (turnstilelaw24_AuditGrows.j1 kj3 l0_5 a0_7 a0_0 a0_1 a0_2 a0_3 a0_4 a0_0 a0_1 a0_2 a0_3 a0_4))) else (some false))) = some r := by first | (rw [hy710]; with_reducible exact H) | (have H2_ := (Option.bind_some _ _).symm.trans H; rw [hy710]; with_reducible exact H2_) | (have H2_ := (Option.bind_some _ _).symm.trans H; with_reducible exact H2_) | with_reducible exact H | (rw [hy710]; exact H) | exact H
                have Ny710 := Aside0.mk hy710
                clear hy710
                replace H := Option.bind_eq_some_iff.mp H
                obtain ⟨t714, A220, H⟩ := H
                replace H : (if t714 = true then (if a0_0 = 1 then ((sat_Add.f a0_2 a0_7).bind fun t716 => ((sat_Sub.f a0_1 1).bind fun t717 => (turnstilelaw24_AuditGrows.j1 kj3 l0_5 a0_7 a0_0 a0_1 a0_2 a0_3 a0_4 a0_0 (IntKind.u64.wrap (1 + (IntKind.u64.wrap (Int.tdiv t717 2)))) t716 a0_3 a0_4))) else (if a0_0 = 2 then ((sat_Add.f a0_3 a0_7).bind fun t718 => (turnstilelaw24_AuditGrows.j1 kj3 l0_5 a0_7 a0_0 a0_1 a0_2 a0_3 a0_4 a0_0 a0_1 a0_2 t718 a0_4)) else (turnstilelaw24_AuditGrows.j1 kj3 l0_5 a0_7 a0_0 a0_1 a0_2 a0_3 a0_4 a0_0 a0_1 a0_2 a0_3 a0_4))) else (some false)) = some r := H
                have A22 := Aside0.mk A220
                clear A220
                by_cases c23 : t714 = true
                · subst c23
                  have H1 : (if a0_0 = 1 then ((sat_Add.f a0_2 a0_7).bind fun t716 => ((sat_Sub.f a0_1 1).bind fun t717 => (turnstilelaw24_AuditGrows.j1 kj3 l0_5 a0_7 a0_0 a0_1 a0_2 a0_3 a0_4 a0_0 (IntKind.u64.wrap (1 + (IntKind.u64.wrap (Int.tdiv t717 2)))) t716 a0_3 a0_4))) else (if a0_0 = 2 then ((sat_Add.f a0_3 a0_7).bind fun t718 => (turnstilelaw24_AuditGrows.j1 kj3 l0_5 a0_7 a0_0 a0_1 a0_2 a0_3 a0_4 a0_0 a0_1 a0_2 t718 a0_4)) else (turnstilelaw24_AuditGrows.j1 kj3 l0_5 a0_7 a0_0 a0_1 a0_2 a0_3 a0_4 a0_0 a0_1 a0_2 a0_3 a0_4))) = some r := by rw [if_pos rfl] at H; exact H
                  clear H
                  have H := H1
                  clear H1
                  have HC24 := Aside0.mk H
                  clear H
                  try go_wp2
                  have n0_ := Aside0.mk (blk_drew BK706.out)
                  have n1_ := Aside0.mk (blk_drew BK708.out)
                  have n2_ := Aside0.mk (below_drew1 HB.out)
                  clear BK706
                  clear BK708
                  clear HB
                  have BK706 := n0_
                  have BK708 := n1_
                  have HB := n2_
                  clear n0_ n1_ n2_
                  have q26 : ((ji19) : Int) ≤ ((l0_5.length : Int) : Int) := of_decide_eq_true (by first | (with_reducible assumption) | assumption)
                  obtain ⟨i026, hi026, _, hsz26, _⟩ := info_parts info31
                  have hroom26 : l0_5.length ≤ c0_5 := HC0_5.out
                  have hC26 : Kd.C k31 _ A0_5 l0_5.length l0_5 := HR0_5.out
                  have hcut26 := cut_to (P := Try.prog) 25 31 .i64 Try.underlying25 hi026 A0_5 l0_5.length c0_5 (ji19) (of_decide_eq_true (by first | (with_reducible assumption) | assumption)) q26 hroom26
                  have hr26 := Kd.C_take (m := ((ji19) : Int).toNat) hC26 (by omega)
                  have hy26 : y710.length = ((ji19) : Int).toNat := (by rw [Ny710.out, List.length_take]; omega)
                  rw [← Ny710.out] at hr26
                  rw [← hy26] at hcut26
                  have HR713 := Aside0.mk hr26
                  have HC713 := Aside0.mk (show y710.length ≤ c0_5 from by omega)
                  clear hr26 hC26 hroom26 hi026 hsz26
                  have KY26 := Aside0.mk hy26
                  clear hy26
                  replace q26 := eq_true q26
                  refine start_ (n := 6) (S := fun w' => w'.cell? ⟨gb708, 0, none⟩ = some (.int .i64 a0_0) ∧ w'.cell? ⟨gb708, 1, none⟩ = some (.int .u64 a0_1) ∧ w'.cell? ⟨gb708, 2, none⟩ = some (.int .u64 a0_2) ∧ w'.cell? ⟨gb708, 3, none⟩ = some (.int .u64 a0_3) ∧ w'.cell? ⟨gb708, 4, none⟩ = some (.int .u64 a0_4)) (ds := []) #[false, false, false, false, false, false] (by kernel_rfl) rfl rfl ⟨(blk_cell BK708.out 0).trans rfl, (blk_cell BK708.out 1).trans rfl, (blk_cell BK708.out 2).trans rfl, (blk_cell BK708.out 3).trans rfl, (blk_cell BK708.out 4).trans rfl⟩ (fun hHeld => ?_)
                  generalize wc.drew = w25 at BK706 BK708 HB HR713 hHeld ⊢
                  refine pure_ (i := 1) (N := some 39) (v := ?_) (a' := ?_) #[false, true, false, false, false, false] rfl rfl (by kernel_rfl) (fun _ _ _ h => h) (Or.inl ⟨by rfl, ?_⟩) ?_ ?_
                  rotate_left
                  · intro w'
                    go_simp
                    with_reducible rfl
                  rotate_left
                  · simp only [Act.put, List.setIfInBounds_toArray, List.set_cons_zero, List.set_cons_succ, i64_w, i32_w]
                    rfl
                  refine pure_ (i := 2) (N := some 40) (v := ?_) (a' := ?_) #[false, true, true, false, false, false] rfl rfl (by kernel_rfl) (fun _ _ _ h => h) (Or.inl ⟨by rfl, ?_⟩) ?_ ?_
                  rotate_left
                  · intro w'
                    go_simp
                    with_reducible rfl
                  rotate_left
                  · simp only [Act.put, List.setIfInBounds_toArray, List.set_cons_zero, List.set_cons_succ, i64_w, i32_w]
                    rfl
                  refine pure_ (i := 3) (N := some 41) (v := ?_) (a' := ?_) #[false, true, true, true, false, false] rfl rfl (by kernel_rfl) (fun _ _ _ h => h) (Or.inl ⟨by rfl, ?_⟩) ?_ ?_
                  rotate_left
                  · intro w'
                    go_simp
                    with_reducible rfl
                  rotate_left
                  · simp only [Act.put, List.setIfInBounds_toArray, List.set_cons_zero, List.set_cons_succ, i64_w, i32_w]
                    rfl
                  refine take_ (i := 0) (N := some 38) (v := ?_) (a' := ?_) #[true, true, true, true, false, false] rfl rfl (by kernel_rfl) (fun _ _ _ h => h) (Or.inl ⟨by rfl, ?_⟩) hHeld ?_ ?_
                  rotate_left
                  · rintro w' ⟨s0, s1, s2, s3, s4⟩
                    go_simp
                    with_reducible rfl
                  rotate_left
                  · simp only [Act.put, List.setIfInBounds_toArray, List.set_cons_zero, List.set_cons_succ, i64_w, i32_w]
                    rfl
                  refine one_ (i := 4) (N := some 42) #[true, true, true, true, true, false] rfl rfl (by kernel_rfl) (by decide) (fun K hK => ?_)
                  refine ge Try.func12 #[.agg #[.int .i64 a0_0, .int .u64 a0_1, .int .u64 a0_2, .int .u64 a0_3, .int .u64 a0_4], .slice A0_5 y710.length c0_5] ?_
                  with_reducible refine (audit_Conforms.calls kj3 a0_0 a0_1 a0_2 a0_3 a0_4 _ _ y710 true _ ?side1 ?side2 A22.out).mono ?_
                  (case side1 => repeat (first | exact (Kd.C_below HR713.out HB.out) | (with_reducible refine Kd.C_alloc ?_ _) | (with_reducible refine Kd.C_drewN ?_ _) | (with_reducible refine Kd.C_drew ?_)))
                  (case side2 => exact HC713.out)
                  rintro e w27 ⟨rfl, hb⟩
                  refine ⟨_, rfl, ?_⟩
                  have n0_ := bb BK706 hb
                  have n1_ := bb BK708 hb
                  have n2_ := bs HB hb
                  clear BK706
                  clear BK708
                  clear HB
                  have BK706 := n0_
                  have BK708 := n1_
                  have HB := n2_
                  clear n0_ n1_ n2_
                  (try clear hb)
                  (try clear hb2)
                  (try clear hk)
                  (try clear hi)
                  refine hK.out _ _ ⟨(blk_cell BK708.out 0).trans rfl, (blk_cell BK708.out 1).trans rfl, (blk_cell BK708.out 2).trans rfl, (blk_cell BK708.out 3).trans rfl, (blk_cell BK708.out 4).trans rfl⟩ (fun hHeld => ?_)
                  clear hK K
                  refine norm_ (a' := ?_) ?_ ?_
                  rotate_left
                  · show Act.put _ (some 42) _ = _
                    simp only [Act.put, List.setIfInBounds_toArray, List.set_cons_zero, List.set_cons_succ, i64_w, i32_w]
                    rfl
                  refine pure_ (i := 5) (N := some 43) (v := ?_) (a' := ?_) #[true, true, true, true, true, true] rfl rfl (by kernel_rfl) (fun _ _ _ h => h) (Or.inl ⟨by rfl, ?_⟩) ?_ ?_
                  rotate_left
                  · intro w'
                    go_simp
                    with_reducible rfl
                  rotate_left
                  · simp only [Act.put, List.setIfInBounds_toArray, List.set_cons_zero, List.set_cons_succ, i64_w, i32_w]
                    rfl
                  refine done_ (by kernel_rfl) ?_
                  have hnb28 := NB708_706.out
                  have hnc28 := NB706_708.out
                  obtain ⟨hcz29_0, hcz29_1, hcz29_2, hcz29_3, hcz29_4, hfz29_0, hfz29_1, hfz29_2, hfz29_3, hfz29_4⟩ := bc5 BK708
                  go_upto_block 0 with (first | ((with_reducible refine gate_dst (N := 8) rfl ?_); refine bx 8 #[.int .i64 0, .int .u64 0, .int .u64 0, .int .u64 0, .int .u64 0] 24 ?_; intro gb715 hg w30 hbox hb; have n0_ := bb BK706 hb; have n1_ := bb BK708 hb; have n2_ := bs HB hb; have n3_ := Aside0.mk (hbox); have n4_ := sz HB hg; have n5_ := sz HB hg; have n6_ := nl BK706 hg; have n7_ := nr BK706 hg; have n8_ := nl BK708 hg; have n9_ := nr BK708 hg; clear BK706; clear BK708; clear HB; have BK706 := n0_; have BK708 := n1_; have HB := n2_; have BK715 := n3_; have GW715 := n4_; have GE715 := n5_; have NB706_715 := n6_; have NB715_706 := n7_; have NB708_715 := n8_; have NB715_708 := n9_; clear n0_ n1_ n2_ n3_ n4_ n5_ n6_ n7_ n8_ n9_; clear hb hbox hg; have hnb31 := NB715_706.out; have hnc31 := NB706_715.out; have hnb32 := NB715_708.out; have hnc32 := NB708_715.out; obtain ⟨hcz33_0, hcz33_1, hcz33_2, hcz33_3, hcz33_4, hfz33_0, hfz33_1, hfz33_2, hfz33_3, hfz33_4⟩ := bc5 BK715; obtain ⟨hcz34_0, hcz34_1, hcz34_2, hcz34_3, hcz34_4, hfz34_0, hfz34_1, hfz34_2, hfz34_3, hfz34_4⟩ := bc5 BK708))
                  (try simp only [Act.put, List.setIfInBounds_toArray, List.set_cons_zero, List.set_cons_succ])
                  go_cut [] (fun wc => ∃ (kq : Nat) (x716001_23 : Int) (x716002_23 : Int) (x716003_23 : Int), Aside0 (turnstilelaw24_AuditGrows.j1 kq l0_5 a0_7 a0_0 a0_1 a0_2 a0_3 a0_4 a0_0 x716001_23 x716002_23 x716003_23 a0_4 = some r) ∧ Aside0 (kq ≤ kj3) ∧ Aside0 (wc.heap[gb706]? = some (.cells #[.int .i64 a0_0, .int .u64 a0_1, .int .u64 a0_2, .int .u64 a0_3, .int .u64 a0_4, (.slice A0_5 l0_5.length c0_5), .int .i64 a0_6, .int .u64 a0_7] 55 (0, 0))) ∧ Aside0 (wc.heap[gb708]? = some (.cells #[.int .i64 a0_0, .int .u64 a0_1, .int .u64 a0_2, .int .u64 a0_3, .int .u64 a0_4] 24 (0, 0))) ∧ Aside0 (wc.heap[gb715]? = some (.cells #[.int .i64 a0_0, .int .u64 x716001_23, .int .u64 x716002_23, .int .u64 x716003_23, .int .u64 a0_4] 24 (0, 0))) ∧ Aside0 (Below w.heap.size w wc))
                  case first =>
                    have H := HC24.out
                    clear HC24
                    by_cases c35 : a0_0 = 1
                    · rw [if_pos c35] at H
                      have c35b0 : (a0_0 == 1) = true := beq_iff_eq.mpr c35
                      have c35b1 : (a0_0 != 1) = false := bne_eq_false_iff_eq.mpr c35
                      clear c35
                      (first | rw [c35b0] | (simp only [i64_w, i32_w]; rw [c35b0]) | skip)
                      replace H := Option.bind_eq_some_iff.mp H
                      obtain ⟨t716, A360, H⟩ := H
                      replace H : ((sat_Sub.f a0_1 1).bind fun t717 => (turnstilelaw24_AuditGrows.j1 kj3 l0_5 a0_7 a0_0 a0_1 a0_2 a0_3 a0_4 a0_0 (IntKind.u64.wrap (1 + (IntKind.u64.wrap (Int.tdiv t717 2)))) t716 a0_3 a0_4)) = some r := H
                      have A36 := Aside0.mk A360
                      clear A360
                      replace H := Option.bind_eq_some_iff.mp H
                      obtain ⟨t717, A370, H⟩ := H
                      replace H : (turnstilelaw24_AuditGrows.j1 kj3 l0_5 a0_7 a0_0 a0_1 a0_2 a0_3 a0_4 a0_0 (IntKind.u64.wrap (1 + (IntKind.u64.wrap (Int.tdiv t717 2)))) t716 a0_3 a0_4) = some r := H
                      have A37 := Aside0.mk A370
                      clear A370
                      have H' := Aside0.mk H
                      clear H
                      have hnb38 := NB708_706.out
                      have hnc38 := NB706_708.out
                      have hnb39 := NB708_715.out
                      have hnc39 := NB715_708.out
                      obtain ⟨hcz40_0, hcz40_1, hcz40_2, hcz40_3, hcz40_4, hfz40_0, hfz40_1, hfz40_2, hfz40_3, hfz40_4⟩ := bc5 BK708
                      go_wp2_with (first | ((with_reducible refine gate_callee (f := 22) rfl ?_); refine gl (some 52) Try.func22 #[.int .u64 a0_2, .int .u64 a0_7] ?_; (with_reducible refine (sat_Add.calls a0_2 a0_7 t716 _ A36.out).mono ?_); rintro e w' ⟨rfl, ⟨nd, rfl⟩⟩; refine ⟨_, rfl, ?_⟩; have hnb41 := NB715_706.out; have hnc41 := NB706_715.out; obtain ⟨hcz42_0, hcz42_1, hcz42_2, hcz42_3, hcz42_4, hfz42_0, hfz42_1, hfz42_2, hfz42_3, hfz42_4⟩ := bc5 BK715) | ((with_reducible refine gate_callee (f := 23) rfl ?_); refine gl (some 56) Try.func23 #[.int .u64 a0_1, .int .u64 1] ?_; (with_reducible refine (sat_Sub.calls a0_1 1 t717 _ A37.out).mono ?_); rintro e w' ⟨rfl, ⟨nd, rfl⟩⟩; refine ⟨_, rfl, ?_⟩))
                      go_meet
                      case rel => exact ⟨_, (IntKind.u64.wrap (1 + (IntKind.u64.wrap (Int.tdiv t717 2)))), (t716), (a0_3), H', ⟨by have := HJ3.out; first | omega | exact Nat.le_refl _⟩, ⟨bk BK706⟩, ⟨bk BK708⟩, ⟨by (with_reducible repeat (first | refine blk_drewN ?_ _ | refine blk_drew ?_ | refine blk_alloc ?_ _)); refine blk_put (cs := #[.int .i64 a0_0, .int .u64 a0_1, .int .u64 t716, .int .u64 a0_3, .int .u64 a0_4]) ?_ 1 _ rfl; (with_reducible repeat (first | refine blk_drewN ?_ _ | refine blk_drew ?_ | refine blk_alloc ?_ _)); refine blk_put (cs := #[.int .i64 a0_0, .int .u64 a0_1, .int .u64 a0_2, .int .u64 a0_3, .int .u64 a0_4]) ?_ 2 _ rfl; (with_reducible repeat (first | refine blk_drewN ?_ _ | refine blk_drew ?_ | refine blk_alloc ?_ _)); refine blk_put (cs := #[.int .i64 a0_0, .int .u64 a0_1, .int .u64 a0_2, .int .u64 a0_3, .int .u64 0]) ?_ 4 _ rfl; (with_reducible repeat (first | refine blk_drewN ?_ _ | refine blk_drew ?_ | refine blk_alloc ?_ _)); refine blk_put (cs := #[.int .i64 a0_0, .int .u64 a0_1, .int .u64 a0_2, .int .u64 0, .int .u64 0]) ?_ 3 _ rfl; (with_reducible repeat (first | refine blk_drewN ?_ _ | refine blk_drew ?_ | refine blk_alloc ?_ _)); refine blk_put (cs := #[.int .i64 a0_0, .int .u64 a0_1, .int .u64 0, .int .u64 0, .int .u64 0]) ?_ 2 _ rfl; (with_reducible repeat (first | refine blk_drewN ?_ _ | refine blk_drew ?_ | refine blk_alloc ?_ _)); refine blk_put (cs := #[.int .i64 a0_0, .int .u64 0, .int .u64 0, .int .u64 0, .int .u64 0]) ?_ 1 _ rfl; (with_reducible repeat (first | refine blk_drewN ?_ _ | refine blk_drew ?_ | refine blk_alloc ?_ _)); refine blk_put (cs := #[.int .i64 0, .int .u64 0, .int .u64 0, .int .u64 0, .int .u64 0]) ?_ 0 _ rfl; (with_reducible repeat (first | refine blk_drewN ?_ _ | refine blk_drew ?_ | refine blk_alloc ?_ _)); exact BK715.out⟩, ⟨bw HB⟩⟩
                    · rw [if_neg c35] at H
                      have c35b0 : (a0_0 == 1) = false := beq_eq_false_iff_ne.mpr c35
                      have c35b1 : (a0_0 != 1) = true := bne_iff_ne.mpr c35
                      (first | rw [c35b0] | (simp only [i64_w, i32_w]; rw [c35b0]) | skip)
                      by_cases c43 : a0_0 = 2
                      · rw [if_pos c43] at H
                        have c43b0 : (a0_0 == 2) = true := beq_iff_eq.mpr c43
                        have c43b1 : (a0_0 != 2) = false := bne_eq_false_iff_eq.mpr c43
                        clear c43
                        replace H := Option.bind_eq_some_iff.mp H
                        obtain ⟨t718, A440, H⟩ := H
                        replace H : (turnstilelaw24_AuditGrows.j1 kj3 l0_5 a0_7 a0_0 a0_1 a0_2 a0_3 a0_4 a0_0 a0_1 a0_2 t718 a0_4) = some r := H
                        have A44 := Aside0.mk A440
                        clear A440
                        have H' := Aside0.mk H
                        clear H
                        have hnb45 := NB708_706.out
                        have hnc45 := NB706_708.out
                        have hnb46 := NB708_715.out
                        have hnc46 := NB715_708.out
                        obtain ⟨hcz47_0, hcz47_1, hcz47_2, hcz47_3, hcz47_4, hfz47_0, hfz47_1, hfz47_2, hfz47_3, hfz47_4⟩ := bc5 BK708
                        go_wp2_with (first | ((with_reducible refine gate_callee (f := 22) rfl ?_); refine gl (some 65) Try.func22 #[.int .u64 a0_3, .int .u64 a0_7] ?_; (with_reducible refine (sat_Add.calls a0_3 a0_7 t718 _ A44.out).mono ?_); rintro e w' ⟨rfl, ⟨nd, rfl⟩⟩; refine ⟨_, rfl, ?_⟩; have hnb48 := NB715_706.out; have hnc48 := NB706_715.out; obtain ⟨hcz49_0, hcz49_1, hcz49_2, hcz49_3, hcz49_4, hfz49_0, hfz49_1, hfz49_2, hfz49_3, hfz49_4⟩ := bc5 BK715))
                        go_meet
                        case rel => exact ⟨_, (a0_1), (a0_2), (t718), H', ⟨by have := HJ3.out; first | omega | exact Nat.le_refl _⟩, ⟨bk BK706⟩, ⟨bk BK708⟩, ⟨bk BK715⟩, ⟨bw HB⟩⟩
                      · rw [if_neg c43] at H
                        have c43b0 : (a0_0 == 2) = false := beq_eq_false_iff_ne.mpr c43
                        have c43b1 : (a0_0 != 2) = true := bne_iff_ne.mpr c43
                        have H' := Aside0.mk H
                        clear H
                        go_wp2
                        go_meet
                        case rel => exact ⟨_, (a0_1), (a0_2), (a0_3), H', ⟨by have := HJ3.out; first | omega | exact Nat.le_refl _⟩, ⟨bk BK706⟩, ⟨bk BK708⟩, ⟨bk BK715⟩, ⟨bw HB⟩⟩
                  case rest =>
                    clear HC24
                    try clear c1
                    try clear c2
                    try clear p2
                    try clear q2
                    try clear c3
                    try clear c4
                    try clear p6
                    try clear c7
                    try clear c9
                    try clear c12
                    try clear c12b0
                    try clear c12b1
                    try clear c14
                    try clear c17
                    try clear c18
                    try clear c18b0
                    try clear c18b1
                    try clear c20
                    try clear c20b0
                    try clear c20b1
                    try clear c21
                    try clear c21b0
                    try clear c21b1
                    try clear c22
                    try clear c23
                    try clear q26
                    try clear c28
                    try clear c31
                    try clear c32
                    try clear c35
                    try clear c35b0
                    try clear c35b1
                    try clear c38
                    try clear c39
                    try clear c41
                    try clear c43
                    try clear c43b0
                    try clear c43b1
                    try clear c45
                    try clear c46
                    try clear c48
                    try clear hcz10_0
                    try clear hcz10_1
                    try clear hcz10_2
                    try clear hcz10_3
                    try clear hcz10_4
                    try clear hcz11_0
                    try clear hcz11_1
                    try clear hcz11_2
                    try clear hcz11_3
                    try clear hcz11_4
                    try clear hcz11_5
                    try clear hcz11_6
                    try clear hcz11_7
                    try clear hcz15_0
                    try clear hcz15_1
                    try clear hcz15_2
                    try clear hcz15_3
                    try clear hcz15_4
                    try clear hcz29_0
                    try clear hcz29_1
                    try clear hcz29_2
                    try clear hcz29_3
                    try clear hcz29_4
                    try clear hcz33_0
                    try clear hcz33_1
                    try clear hcz33_2
                    try clear hcz33_3
                    try clear hcz33_4
                    try clear hcz34_0
                    try clear hcz34_1
                    try clear hcz34_2
                    try clear hcz34_3
                    try clear hcz34_4
                    try clear hcz40_0
                    try clear hcz40_1
                    try clear hcz40_2
                    try clear hcz40_3
                    try clear hcz40_4
                    try clear hcz42_0
                    try clear hcz42_1
                    try clear hcz42_2
                    try clear hcz42_3
                    try clear hcz42_4
                    try clear hcz47_0
                    try clear hcz47_1
                    try clear hcz47_2
                    try clear hcz47_3
                    try clear hcz47_4
                    try clear hcz49_0
                    try clear hcz49_1
                    try clear hcz49_2
                    try clear hcz49_3
                    try clear hcz49_4
                    try clear hcz7_0
                    try clear hcz7_1
                    try clear hcz7_2
                    try clear hcz7_3
                    try clear hcz7_4
                    try clear hcz7_5
                    try clear hcz7_6
                    try clear hcz7_7
                    try clear hfz10_0
                    try clear hfz10_1
                    try clear hfz10_2
                    try clear hfz10_3
                    try clear hfz10_4
                    try clear hfz11_0
                    try clear hfz11_1
                    try clear hfz11_2
                    try clear hfz11_3
                    try clear hfz11_4
                    try clear hfz11_5
                    try clear hfz11_6
                    try clear hfz11_7
                    try clear hfz15_0
                    try clear hfz15_1
                    try clear hfz15_2
                    try clear hfz15_3
                    try clear hfz15_4
                    try clear hfz29_0
                    try clear hfz29_1
                    try clear hfz29_2
                    try clear hfz29_3
                    try clear hfz29_4
                    try clear hfz33_0
                    try clear hfz33_1
                    try clear hfz33_2
                    try clear hfz33_3
                    try clear hfz33_4
                    try clear hfz34_0
                    try clear hfz34_1
                    try clear hfz34_2
                    try clear hfz34_3
                    try clear hfz34_4
                    try clear hfz40_0
                    try clear hfz40_1
                    try clear hfz40_2
                    try clear hfz40_3
                    try clear hfz40_4
                    try clear hfz42_0
                    try clear hfz42_1
                    try clear hfz42_2
                    try clear hfz42_3
                    try clear hfz42_4
                    try clear hfz47_0
                    try clear hfz47_1
                    try clear hfz47_2
                    try clear hfz47_3
                    try clear hfz47_4
                    try clear hfz49_0
                    try clear hfz49_1
                    try clear hfz49_2
                    try clear hfz49_3
                    try clear hfz49_4
                    try clear hfz7_0
                    try clear hfz7_1
                    try clear hfz7_2
                    try clear hfz7_3
                    try clear hfz7_4
                    try clear hfz7_5
                    try clear hfz7_6
                    try clear hfz7_7
                    try clear p2
                    try clear q26
                    obtain ⟨kq, x716001_23, x716002_23, x716003_23, HA, HJ23, BK706, BK708, BK715, HB⟩ := hcut
                    cases kq with
                    | zero => exact absurd HA.out (by simp [turnstilelaw24_AuditGrows.j1])
                    | succ kj23 =>
                      have H := HA.out
                      clear HA
                      simp only [turnstilelaw24_AuditGrows.j1] at H
                      replace H := Option.bind_eq_some_iff.mp H
                      obtain ⟨t719, A500, H⟩ := H
                      replace H : (if t719 = true then (if (l0_5.length : Int) = 0 then (some true) else (if 0 ≤ (l0_5.length : Int) then (if ((l0_5.length : Int) : Int).toNat ≤ 17592186044416 then ((some (List.replicate 0 z31 : List (S31))).bind fun y720 => (if y720.length + l0_5.length < 8796093022208 then ((some (y720 ++ l0_5 : List (S31))).bind fun y723 => (if 0 ≤ (wrap64 ((y723.length : Int) - 1)) then (if (wrap64 ((y723.length : Int) - 1)) < (y723.length : Int) then ((some (y723.set ((wrap64 ((y723.length : Int) - 1)) : Int).toNat (⟨(rd_T31 y723 (wrap64 ((y723.length : Int) - 1))).f0, IntKind.u64.wrap (1 + (IntKind.u64.wrap (Int.tdiv (IntKind.u64.wrap (((rd_T31 y723 (wrap64 ((y723.length : Int) - 1))).f1) - 1)) 2)))⟩ : S31) : List (S31))).bind fun y727 => ((audit_Conforms.f kj23 a0_0 a0_1 a0_2 a0_3 a0_4 y727).bind fun t728 => (if t728 = true then (if (wrap64 ((y723.length : Int) - 1)) < (l0_5.length : Int) then ((some (y727.set ((wrap64 ((y723.length : Int) - 1)) : Int).toNat (⟨(rd_T31 y727 (wrap64 ((y723.length : Int) - 1))).f0, (rd_T31 l0_5 (wrap64 ((y723.length : Int) - 1))).f1⟩ : S31) : List (S31))).bind fun y730 => ((sat_Add.f ((rd_T31 y730 (wrap64 ((y723.length : Int) - 1))).f0) a0_7).bind fun t732 => (if a0_0 = 1 then ((audit_Conforms.f kj23 a0_0 a0_1 a0_2 a0_3 a0_4 (y730.set ((wrap64 ((y723.length : Int) - 1)) : Int).toNat (⟨t732, (rd_T31 y730 (wrap64 ((y723.length : Int) - 1))).f1⟩ : S31))).bind fun t734 => (some t734)) else (some true)))) else (none)) else (some false)))) else (none)) else (none))) else (none))) else (none)) else (none))) else (some false)) = some r := H
                      have A50 := Aside0.mk A500
                      clear A500
                      by_cases c51 : t719 = true
                      · subst c51
                        have H1 : (if (l0_5.length : Int) = 0 then (some true) else (if 0 ≤ (l0_5.length : Int) then (if ((l0_5.length : Int) : Int).toNat ≤ 17592186044416 then ((some (List.replicate 0 z31 : List (S31))).bind fun y720 => (if y720.length + l0_5.length < 8796093022208 then ((some (y720 ++ l0_5 : List (S31))).bind fun y723 => (if 0 ≤ (wrap64 ((y723.length : Int) - 1)) then (if (wrap64 ((y723.length : Int) - 1)) < (y723.length : Int) then ((some (y723.set ((wrap64 ((y723.length : Int) - 1)) : Int).toNat (⟨(rd_T31 y723 (wrap64 ((y723.length : Int) - 1))).f0, IntKind.u64.wrap (1 + (IntKind.u64.wrap (Int.tdiv (IntKind.u64.wrap (((rd_T31 y723 (wrap64 ((y723.length : Int) - 1))).f1) - 1)) 2)))⟩ : S31) : List (S31))).bind fun y727 => ((audit_Conforms.f kj23 a0_0 a0_1 a0_2 a0_3 a0_4 y727).bind fun t728 => (if t728 = true then (if (wrap64 ((y723.length : Int) - 1)) < (l0_5.length : Int) then ((some (y727.set ((wrap64 ((y723.length : Int) - 1)) : Int).toNat (⟨(rd_T31 y727 (wrap64 ((y723.length : Int) - 1))).f0, (rd_T31 l0_5 (wrap64 ((y723.length : Int) - 1))).f1⟩ : S31) : List (S31))).bind fun y730 => ((sat_Add.f ((rd_T31 y730 (wrap64 ((y723.length : Int) - 1))).f0) a0_7).bind fun t732 => (if a0_0 = 1 then ((audit_Conforms.f kj23 a0_0 a0_1 a0_2 a0_3 a0_4 (y730.set ((wrap64 ((y723.length : Int) - 1)) : Int).toNat (⟨t732, (rd_T31 y730 (wrap64 ((y723.length : Int) - 1))).f1⟩ : S31))).bind fun t734 => (some t734)) else (some true)))) else (none)) else (some false)))) else (none)) else (none))) else (none))) else (none)) else (none))) = some r := by rw [if_pos rfl] at H; exact H
                        clear H
                        have H := H1
                        clear H1
                        by_cases c52 : (l0_5.length : Int) = 0
                        · rw [if_pos c52] at H
                          have c52b0 : ((l0_5.length : Int) == 0) = true := beq_iff_eq.mpr c52
                          have c52b1 : ((l0_5.length : Int) != 0) = false := bne_eq_false_iff_eq.mpr c52
                          clear c52
                          obtain rfl := Option.some.inj H
                          have hnb53 := NB715_706.out
                          have hnc53 := NB706_715.out
                          have hnb54 := NB715_708.out
                          have hnc54 := NB708_715.out
                          obtain ⟨hcz55_0, hcz55_1, hcz55_2, hcz55_3, hcz55_4, hfz55_0, hfz55_1, hfz55_2, hfz55_3, hfz55_4⟩ := bc5 BK715
                          go_wp2_with (first | ((with_reducible refine gate_callee (f := 12) rfl ?_); refine gl (some 69) Try.func12 #[.agg #[.int .i64 a0_0, .int .u64 x716001_23, .int .u64 x716002_23, .int .u64 x716003_23, .int .u64 a0_4], .slice A0_5 l0_5.length c0_5] ?_; (with_reducible refine (audit_Conforms.calls kj23 a0_0 x716001_23 x716002_23 x716003_23 a0_4 _ _ l0_5 true _ ?side1 ?side2 A50.out).mono ?_); (case side1 => repeat (first | exact (Kd.C_below HR0_5.out HB.out) | (with_reducible refine Kd.C_alloc ?_ _) | (with_reducible refine Kd.C_drewN ?_ _) | (with_reducible refine Kd.C_drew ?_))); (case side2 => exact HC0_5.out); rintro e w56 ⟨rfl, hb⟩; refine ⟨_, rfl, ?_⟩; have n0_ := bb BK706 hb; have n1_ := bb BK708 hb; have n2_ := bb BK715 hb; have n3_ := bs HB hb; clear BK706; clear BK708; clear BK715; clear HB; have BK706 := n0_; have BK708 := n1_; have BK715 := n2_; have HB := n3_; clear n0_ n1_ n2_ n3_; (try clear hb); (try clear hb2); (try clear hk); (try clear hi)))
                          go_ret
                          exact ⟨by first | rfl | (simp [errW_none, errW_some] <;> rfl) | (simp only [← hji19]; first | rfl | (simp [errW_none, errW_some] <;> rfl)) | (simp [*, errW_none, errW_some] <;> rfl), bw HB⟩
                        · rw [if_neg c52] at H
                          have c52b0 : ((l0_5.length : Int) == 0) = false := beq_eq_false_iff_ne.mpr c52
                          have c52b1 : ((l0_5.length : Int) != 0) = true := bne_iff_ne.mpr c52
                          have c52b2 : ¬ (l0_5 = []) := fun h_ => c52 (by rw [h_]; rfl)
                          by_cases c57 : 0 ≤ (l0_5.length : Int)
                          · rw [if_pos c57] at H
                            have c57b0 := eq_true c57
                            have c57b1 : decide (0 ≤ (l0_5.length : Int)) = true := decide_eq_true c57
                            clear c57
                            by_cases c58 : ((l0_5.length : Int) : Int).toNat ≤ 17592186044416
                            · rw [if_pos c58] at H
                              have c58b0 := eq_true c58
                              have c58b1 : decide (((l0_5.length : Int) : Int).toNat ≤ 17592186044416) = true := decide_eq_true c58
                              clear c58
                              obtain ⟨y720, hy720⟩ : ∃ y_ : List (S31), y_ = (List.replicate 0 z31) := ⟨_, rfl⟩
                              replace H : (if y720.length + l0_5.length < 8796093022208 then ((some (y720 ++ l0_5 : List (S31))).bind fun y723 => (if 0 ≤ (wrap64 ((y723.length : Int) - 1)) then (if (wrap64 ((y723.length : Int) - 1)) < (y723.length : Int) then ((some (y723.set ((wrap64 ((y723.length : Int) - 1)) : Int).toNat (⟨(rd_T31 y723 (wrap64 ((y723.length : Int) - 1))).f0, IntKind.u64.wrap (1 + (IntKind.u64.wrap (Int.tdiv (IntKind.u64.wrap (((rd_T31 y723 (wrap64 ((y723.length : Int) - 1))).f1) - 1)) 2)))⟩ : S31) : List (S31))).bind fun y727 => ((audit_Conforms.f kj23 a0_0 a0_1 a0_2 a0_3 a0_4 y727).bind fun t728 => (if t728 = true then (if (wrap64 ((y723.length : Int) - 1)) < (l0_5.length : Int) then ((some (y727.set ((wrap64 ((y723.length : Int) - 1)) : Int).toNat (⟨(rd_T31 y727 (wrap64 ((y723.length : Int) - 1))).f0, (rd_T31 l0_5 (wrap64 ((y723.length : Int) - 1))).f1⟩ : S31) : List (S31))).bind fun y730 => ((sat_Add.f ((rd_T31 y730 (wrap64 ((y723.length : Int) - 1))).f0) a0_7).bind fun t732 => (if a0_0 = 1 then ((audit_Conforms.f kj23 a0_0 a0_1 a0_2 a0_3 a0_4 (y730.set ((wrap64 ((y723.length : Int) - 1)) : Int).toNat (⟨t732, (rd_T31 y730 (wrap64 ((y723.length : Int) - 1))).f1⟩ : S31))).bind fun t734 => (some t734)) else (some true)))) else (none)) else (some false)))) else (none)) else (none))) else (none)) = some r := by first | (rw [hy720]; with_reducible exact H) | (have H2_ := (Option.bind_some _ _).symm.trans H; rw [hy720]; with_reducible exact H2_) | (have H2_ := (Option.bind_some _ _).symm.trans H; with_reducible exact H2_) | with_reducible exact H | (rw [hy720]; exact H) | exact H
                              have Ny720 := Aside0.mk hy720
                              clear hy720
                              by_cases c59 : y720.length + l0_5.length < 8796093022208
                              · rw [if_pos c59] at H
                                have LMc59 := Aside0.mk c59
                                clear c59
                                obtain ⟨y723, hy723⟩ : ∃ y_ : List (S31), y_ = (y720 ++ l0_5) := ⟨_, rfl⟩
                                replace H : (if 0 ≤ (wrap64 ((y723.length : Int) - 1)) then (if (wrap64 ((y723.length : Int) - 1)) < (y723.length : Int) then ((some (y723.set ((wrap64 ((y723.length : Int) - 1)) : Int).toNat (⟨(rd_T31 y723 (wrap64 ((y723.length : Int) - 1))).f0, IntKind.u64.wrap (1 + (IntKind.u64.wrap (Int.tdiv (IntKind.u64.wrap (((rd_T31 y723 (wrap64 ((y723.length : Int) - 1))).f1) - 1)) 2)))⟩ : S31) : List (S31))).bind fun y727 => ((audit_Conforms.f kj23 a0_0 a0_1 a0_2 a0_3 a0_4 y727).bind fun t728 => (if t728 = true then (if (wrap64 ((y723.length : Int) - 1)) < (l0_5.length : Int) then ((some (y727.set ((wrap64 ((y723.length : Int) - 1)) : Int).toNat (⟨(rd_T31 y727 (wrap64 ((y723.length : Int) - 1))).f0, (rd_T31 l0_5 (wrap64 ((y723.length : Int) - 1))).f1⟩ : S31) : List (S31))).bind fun y730 => ((sat_Add.f ((rd_T31 y730 (wrap64 ((y723.length : Int) - 1))).f0) a0_7).bind fun t732 => (if a0_0 = 1 then ((audit_Conforms.f kj23 a0_0 a0_1 a0_2 a0_3 a0_4 (y730.set ((wrap64 ((y723.length : Int) - 1)) : Int).toNat (⟨t732, (rd_T31 y730 (wrap64 ((y723.length : Int) - 1))).f1⟩ : S31))).bind fun t734 => (some t734)) else (some true)))) else (none)) else (some false)))) else (none)) else (none)) = some r := by first | (rw [hy723]; with_reducible exact H) | (have H2_ := (Option.bind_some _ _).symm.trans H; rw [hy723]; with_reducible exact H2_) | (have H2_ := (Option.bind_some _ _).symm.trans H; with_reducible exact H2_) | with_reducible exact H | (rw [hy723]; exact H) | exact H
                                have Ny723 := Aside0.mk hy723
                                clear hy723
                                obtain ⟨ji60, hji60⟩ : ∃ j_ : Int, (wrap64 ((y723.length : Int) - 1)) = j_ := ⟨_, rfl⟩
                                replace H : (if 0 ≤ (ji60) then (if (ji60) < (y723.length : Int) then ((some (y723.set ((ji60) : Int).toNat (⟨(rd_T31 y723 (ji60)).f0, IntKind.u64.wrap (1 + (IntKind.u64.wrap (Int.tdiv (IntKind.u64.wrap (((rd_T31 y723 (ji60)).f1) - 1)) 2)))⟩ : S31) : List (S31))).bind fun y727 => ((audit_Conforms.f kj23 a0_0 a0_1 a0_2 a0_3 a0_4 y727).bind fun t728 => (if t728 = true then (if (ji60) < (l0_5.length : Int) then ((some (y727.set ((ji60) : Int).toNat (⟨(rd_T31 y727 (ji60)).f0, (rd_T31 l0_5 (ji60)).f1⟩ : S31) : List (S31))).bind fun y730 => ((sat_Add.f ((rd_T31 y730 (ji60)).f0) a0_7).bind fun t732 => (if a0_0 = 1 then ((audit_Conforms.f kj23 a0_0 a0_1 a0_2 a0_3 a0_4 (y730.set ((ji60) : Int).toNat (⟨t732, (rd_T31 y730 (ji60)).f1⟩ : S31))).bind fun t734 => (some t734)) else (some true)))) else (none)) else (some false)))) else (none)) else (none)) = some r := by first | (rw [hji60] at H; exact H) | (simp only [hji60] at H ⊢; exact H)
                                (try rw [hji60] at A50)
                                have hji60w : (IntKind.i64.wrap ((y723.length : Int) - 1)) = ji60 := (i64_w _).trans hji60
                                by_cases c61 : 0 ≤ (ji60)
                                · rw [if_pos c61] at H
                                  have c61b0 : decide (0 ≤ (ji60)) = true := decide_eq_true c61
                                  clear c61
                                  by_cases c62 : (ji60) < (y723.length : Int)
                                  · rw [if_pos c62] at H
                                    have c62b0 : decide ((ji60) < (y723.length : Int)) = true := decide_eq_true c62
                                    clear c62
                                    obtain ⟨y727, hy727⟩ : ∃ y_ : List (S31), y_ = (y723.set ((ji60) : Int).toNat (⟨(rd_T31 y723 (ji60)).f0, IntKind.u64.wrap (1 + (IntKind.u64.wrap (Int.tdiv (IntKind.u64.wrap (((rd_T31 y723 (ji60)).f1) - 1)) 2)))⟩ : S31)) := ⟨_, rfl⟩
                                    replace H : ((audit_Conforms.f kj23 a0_0 a0_1 a0_2 a0_3 a0_4 y727).bind fun t728 => (if t728 = true then (if (ji60) < (l0_5.length : Int) then ((some (y727.set ((ji60) : Int).toNat (⟨(rd_T31 y727 (ji60)).f0, (rd_T31 l0_5 (ji60)).f1⟩ : S31) : List (S31))).bind fun y730 => ((sat_Add.f ((rd_T31 y730 (ji60)).f0) a0_7).bind fun t732 => (if a0_0 = 1 then ((audit_Conforms.f kj23 a0_0 a0_1 a0_2 a0_3 a0_4 (y730.set ((ji60) : Int).toNat (⟨t732, (rd_T31 y730 (ji60)).f1⟩ : S31))).bind fun t734 => (some t734)) else (some true)))) else (none)) else (some false))) = some r := by first | (rw [hy727]; with_reducible exact H) | (have H2_ := (Option.bind_some _ _).symm.trans H; rw [hy727]; with_reducible exact H2_) | (have H2_ := (Option.bind_some _ _).symm.trans H; with_reducible exact H2_) | with_reducible exact H | (rw [hy727]; exact H) | exact H
                                    have Ny727 := Aside0.mk hy727
                                    clear hy727
                                    replace H := Option.bind_eq_some_iff.mp H
                                    obtain ⟨t728, A640, H⟩ := H
                                    replace H : (if t728 = true then (if (ji60) < (l0_5.length : Int) then ((some (y727.set ((ji60) : Int).toNat (⟨(rd_T31 y727 (ji60)).f0, (rd_T31 l0_5 (ji60)).f1⟩ : S31) : List (S31))).bind fun y730 => ((sat_Add.f ((rd_T31 y730 (ji60)).f0) a0_7).bind fun t732 => (if a0_0 = 1 then ((audit_Conforms.f kj23 a0_0 a0_1 a0_2 a0_3 a0_4 (y730.set ((ji60) : Int).toNat (⟨t732, (rd_T31 y730 (ji60)).f1⟩ : S31))).bind fun t734 => (some t734)) else (some true)))) else (none)) else (some false)) = some r := H
                                    have A64 := Aside0.mk A640
                                    clear A640
                                    by_cases c65 : t728 = true
                                    · subst c65
                                      have H1 : (if (ji60) < (l0_5.length : Int) then ((some (y727.set ((ji60) : Int).toNat (⟨(rd_T31 y727 (ji60)).f0, (rd_T31 l0_5 (ji60)).f1⟩ : S31) : List (S31))).bind fun y730 => ((sat_Add.f ((rd_T31 y730 (ji60)).f0) a0_7).bind fun t732 => (if a0_0 = 1 then ((audit_Conforms.f kj23 a0_0 a0_1 a0_2 a0_3 a0_4 (y730.set ((ji60) : Int).toNat (⟨t732, (rd_T31 y730 (ji60)).f1⟩ : S31))).bind fun t734 => (some t734)) else (some true)))) else (none)) = some r := by rw [if_pos rfl] at H; exact H
                                      clear H
                                      have H := H1
                                      clear H1
                                      by_cases c66 : (ji60) < (l0_5.length : Int)
                                      · rw [if_pos c66] at H
                                        have c66b0 : decide ((ji60) < (l0_5.length : Int)) = true := decide_eq_true c66
                                        clear c66
                                        obtain ⟨y730, hy730⟩ : ∃ y_ : List (S31), y_ = (y727.set ((ji60) : Int).toNat (⟨(rd_T31 y727 (ji60)).f0, (rd_T31 l0_5 (ji60)).f1⟩ : S31)) := ⟨_, rfl⟩
                                        replace H : ((sat_Add.f ((rd_T31 y730 (ji60)).f0) a0_7).bind fun t732 => (if a0_0 = 1 then ((audit_Conforms.f kj23 a0_0 a0_1 a0_2 a0_3 a0_4 (y730.set ((ji60) : Int).toNat (⟨t732, (rd_T31 y730 (ji60)).f1⟩ : S31))).bind fun t734 => (some t734)) else (some true))) = some r := by first | (rw [hy730]; with_reducible exact H) | (have H2_ := (Option.bind_some _ _).symm.trans H; rw [hy730]; with_reducible exact H2_) | (have H2_ := (Option.bind_some _ _).symm.trans H; with_reducible exact H2_) | with_reducible exact H | (rw [hy730]; exact H) | exact H
                                        have Ny730 := Aside0.mk hy730
                                        clear hy730
                                        replace H := Option.bind_eq_some_iff.mp H
                                        obtain ⟨t732, A680, H⟩ := H
                                        replace H : (if a0_0 = 1 then ((audit_Conforms.f kj23 a0_0 a0_1 a0_2 a0_3 a0_4 (y730.set ((ji60) : Int).toNat (⟨t732, (rd_T31 y730 (ji60)).f1⟩ : S31))).bind fun t734 => (some t734)) else (some true)) = some r := H
                                        have A68 := Aside0.mk A680
                                        clear A680
                                        obtain ⟨y733, hy733⟩ : ∃ y_ : List (S31), y_ = (y730.set ((ji60) : Int).toNat (⟨t732, (rd_T31 y730 (ji60)).f1⟩ : S31)) := ⟨_, rfl⟩
                                        replace H : (if a0_0 = 1 then ((audit_Conforms.f kj23 a0_0 a0_1 a0_2 a0_3 a0_4 y733).bind fun t734 => (some t734)) else (some true)) = some r := by first | (rw [hy733]; with_reducible exact H) | (have H2_ := (Option.bind_some _ _).symm.trans H; rw [hy733]; with_reducible exact H2_) | (have H2_ := (Option.bind_some _ _).symm.trans H; with_reducible exact H2_) | with_reducible exact H | (rw [hy733]; exact H) | exact H
                                        have Ny733 := Aside0.mk hy733
                                        clear hy733
                                        by_cases c70 : a0_0 = 1
                                        · rw [if_pos c70] at H
                                          have c70b0 : (a0_0 == 1) = true := beq_iff_eq.mpr c70
                                          have c70b1 : (a0_0 != 1) = false := bne_eq_false_iff_eq.mpr c70
                                          clear c70
                                          replace H := Option.bind_eq_some_iff.mp H
                                          obtain ⟨t734, A710, H⟩ := H
                                          replace H : (some t734) = some r := H
                                          have A71 := Aside0.mk A710
                                          clear A710
                                          obtain rfl := Option.some.inj H
                                          have hnb72 := NB715_706.out
                                          have hnc72 := NB706_715.out
                                          have hnb73 := NB715_708.out
                                          have hnc73 := NB708_715.out
                                          obtain ⟨hcz74_0, hcz74_1, hcz74_2, hcz74_3, hcz74_4, hfz74_0, hfz74_1, hfz74_2, hfz74_3, hfz74_4⟩ := bc5 BK715
                                          go_wp2_with (first | ((with_reducible refine gate_callee (f := 12) rfl ?_); refine gl (some 69) Try.func12 #[.agg #[.int .i64 a0_0, .int .u64 x716001_23, .int .u64 x716002_23, .int .u64 x716003_23, .int .u64 a0_4], .slice A0_5 l0_5.length c0_5] ?_; (with_reducible refine (audit_Conforms.calls kj23 a0_0 x716001_23 x716002_23 x716003_23 a0_4 _ _ l0_5 true _ ?side1 ?side2 A50.out).mono ?_); (case side1 => repeat (first | exact (Kd.C_below HR0_5.out HB.out) | (with_reducible refine Kd.C_alloc ?_ _) | (with_reducible refine Kd.C_drewN ?_ _) | (with_reducible refine Kd.C_drew ?_))); (case side2 => exact HC0_5.out); rintro e w75 ⟨rfl, hb⟩; refine ⟨_, rfl, ?_⟩; have n0_ := bb BK706 hb; have n1_ := bb BK708 hb; have n2_ := bb BK715 hb; have n3_ := bs HB hb; clear BK706; clear BK708; clear BK715; clear HB; have BK706 := n0_; have BK708 := n1_; have BK715 := n2_; have HB := n3_; clear n0_ n1_ n2_ n3_; (try clear hb); (try clear hb2); (try clear hk); (try clear hi)) | ((with_reducible refine gate_dst (N := 76) rfl ?_); refine Kd.R_make0 k31 _ 31 rfl (N := 76) rfl 25 _ _ rfl (l0_5.length : Int) rfl rfl Try.underlying25 (.agg #[(.int .u64 0), (.int .u64 0)]) 16 info31 rfl (by decide) (by omega) z31 (ok := fun _ => True) (okp := fun _ => True) (k31_mkM _ _ _ z31 ) (fun _ hk => hk) trivial (of_decide_eq_true (by first | (with_reducible assumption) | assumption)) (Nat.le_trans (Nat.mul_le_mul_right _ (of_decide_eq_true (by first | (with_reducible assumption) | assumption) : (l0_5.length : Int).toNat ≤ 17592186044416)) (by omega)) (Below.refl _ _) (Nat.le_refl _) ?_; intro v721 w76 ho77 hb hg_ hnew_; clear hg_ hnew_; (first | rw [← Ny720.out] at ho77 | (simp only [Int.reduceToNat] at ho77; rw [← Ny720.out] at ho77)); have n0_ := Aside0.mk (Kd.R_lower ho77 (below_size (bw HB))); have n1_ := bb BK706 hb; have n2_ := bb BK708 hb; have n3_ := bb BK715 hb; have n4_ := bs HB hb; clear BK706; clear BK708; clear BK715; clear HB; have HO722 := n0_; have BK706 := n1_; have BK708 := n2_; have BK715 := n3_; have HB := n4_; clear n0_ n1_ n2_ n3_ n4_; clear hb ho77) | ((with_reducible refine gate_builtin (b := .append) (xs := #[.tmp 77, .tmp 78]) rfl ?_); at_builtin; refine Kd.R_append_rows k31 (w0 := w) w.heap.size rfl (.tmp 77) (.tmp 78) 25 31 (.agg #[(.int .u64 0), (.int .u64 0)]) 16 rfl Try.underlying25 info31 rfl (by decide) (by omega) v721 y720 l0_5 _ _ _ (fun _ => True) (fun _ => False) rfl rfl ?aO ?aR (fun _ _ h => h) (fun _ h => h.elim) ?aF ?aB ?aS ?aL ?_; (case aR => repeat (first | exact (Kd.C_below HR0_5.out HB.out) | (with_reducible refine Kd.C_alloc ?_ _) | (with_reducible refine Kd.C_drewN ?_ _) | (with_reducible refine Kd.C_drew ?_))); (case aB => exact (bw HB)); (case aF => exact (fun _ _ => trivial)); (case aO => exact (by (with_reducible repeat (first | apply Kd.R_alloc | apply Kd.R_drewN | apply Kd.R_drew)); exact HO722.out)); (case aS => exact (below_size (bw HB))); (case aL => have := LMc59.out; omega); intro v724 w78 ho hb hg hat; rw [← Ny723.out] at ho; have n0_ := Aside0.mk (blk_grown (g := gb706) (o := .cells #[.int .i64 a0_0, .int .u64 a0_1, .int .u64 a0_2, .int .u64 a0_3, .int .u64 a0_4, .slice A0_5 l0_5.length c0_5, .int .i64 a0_6, .int .u64 a0_7] 55 (0, 0)) (bk BK706) hg (Kd.R_ne HO722.out BK706.out (by decide))); have n1_ := Aside0.mk (blk_grown (g := gb708) (o := .cells #[.int .i64 a0_0, .int .u64 a0_1, .int .u64 a0_2, .int .u64 a0_3, .int .u64 a0_4] 24 (0, 0)) (bk BK708) hg (Kd.R_ne HO722.out BK708.out (by decide))); have n2_ := Aside0.mk (blk_grown (g := gb715) (o := .cells #[.int .i64 a0_0, .int .u64 x716001_23, .int .u64 x716002_23, .int .u64 x716003_23, .int .u64 a0_4] 24 (0, 0)) (bk BK715) hg (Kd.R_ne HO722.out BK715.out (by decide))); have n3_ := Aside0.mk (hb); have n4_ := Aside0.mk (ho); clear BK706; clear BK708; clear BK715; clear HB; clear HO722; have BK706 := n0_; have BK708 := n1_; have BK715 := n2_; have HB := n3_; have HO725 := n4_; clear n0_ n1_ n2_ n3_ n4_; clear ho hb hg hat; obtain ⟨Ao79, co79, eo79⟩ := Kd.R_slice HO725.out; subst eo79; have p726 : 0 ≤ ((ji60) : Int) := of_decide_eq_true (by first | (with_reducible assumption) | assumption); have q726 : (ji60) < (y723.length : Int) := of_decide_eq_true (by first | (with_reducible assumption) | assumption); obtain ⟨ad726, e726, hx726_0, hx726_1⟩ := at_T31 (Kd.R_reads' HO725.out).2.2 (ji60) p726 q726; cases e726; replace p726 := eq_true p726; replace q726 := eq_true q726; have p63 : 0 ≤ ((ji60) : Int) := of_decide_eq_true (by first | (with_reducible assumption) | assumption); have q63 : ((ji60) : Int) < ((y723.length : Int) : Int) := of_decide_eq_true (by first | (with_reducible assumption) | assumption); obtain ⟨go63, co63, eo63, gb63, gl63, cl63, HG63⟩ := Kd.R_form HO725.out (by omega); (first | cases eo63 | (injection eo63 with ea_ en_ ec_; (first | subst ea_ | (injection ea_ with ea_; subst ea_)); subst ec_; clear en_)); have GB63 := Aside0.mk gb63; have GG63 := Aside0.mk HG63; clear gb63 gl63 HG63; (first | simp only [add_plain] at hx726_0 | skip); (first | simp only [add_plain] at hx726_1 | skip); obtain ⟨ce63, hcl63, hM63, hcc63, hfr63⟩ := Kd.R_elem HO725.out z31 ((ji60) : Int) p63 q63; obtain rfl := k31_openM hM63; have hx63_0 : w78.cell? ⟨go63, ((ji60) : Int).toNat * 2, none⟩ = some (.int .u64 ((rd_T31 y723 (ji60)).f0)) := hcc63 0 _ rfl; have hx63_1 : w78.cell? ⟨go63, ((ji60) : Int).toNat * 2 + 1, none⟩ = some (.int .u64 ((rd_T31 y723 (ji60)).f1)) := hcc63 1 _ rfl; have hf63_0 : w78.frozen? ⟨go63, ((ji60) : Int).toNat * 2, none⟩ = false := hfr63 0; have hf63_1 : w78.frozen? ⟨go63, ((ji60) : Int).toNat * 2 + 1, none⟩ = false := hfr63 1; clear hcl63 hcc63 hfr63 hM63; replace p63 := eq_true p63; replace q63 := eq_true q63; have HX80 := Aside0.mk (show Kd.R k31 31 w78 w.heap.size (fun _ => True) (.slice (some ⟨go63, 0, none⟩) y723.length co79) y723 from (by (with_reducible repeat (first | apply Kd.R_alloc | apply Kd.R_drewN | apply Kd.R_drew)); exact HO725.out)); obtain ⟨ce80, hcl80, hM80, hcc80, hfr80⟩ := Kd.R_elem HX80.out z31 ((ji60) : Int) (of_decide_eq_true (by first | (with_reducible assumption) | assumption)) (by have h_ : ((ji60) : Int) < ((y723.length : Int) : Int) := of_decide_eq_true (by first | (with_reducible assumption) | assumption); first | exact h_ | (have e_ := (Kd.R_reads' HO725.out).1; omega) | simpa using h_); obtain rfl := k31_openM hM80; have HP80 := Kd.R_seg HX80.out ((ji60) : Int) (of_decide_eq_true (by first | (with_reducible assumption) | assumption)) (by have h_ : ((ji60) : Int) < ((y723.length : Int) : Int) := of_decide_eq_true (by first | (with_reducible assumption) | assumption); first | exact h_ | (have e_ := (Kd.R_reads' HO725.out).1; omega) | simpa using h_) (seg := [.int .u64 (IntKind.u64.wrap (1 + (IntKind.u64.wrap (Int.tdiv (IntKind.u64.wrap (((rd_T31 y723 (ji60)).f1) - 1)) 2))))]) (j := 1) hcl80 hcc80 (show 2 ≤ 2 from by decide) (x' := (⟨(rd_T31 y723 (ji60)).f0, IntKind.u64.wrap (1 + (IntKind.u64.wrap (Int.tdiv (IntKind.u64.wrap (((rd_T31 y723 (ji60)).f1) - 1)) 2)))⟩ : S31)) (k31_mkM _ _ _ (⟨(rd_T31 y723 (ji60)).f0, IntKind.u64.wrap (1 + (IntKind.u64.wrap (Int.tdiv (IntKind.u64.wrap (((rd_T31 y723 (ji60)).f1) - 1)) 2)))⟩ : S31) ) (fun _ hk => hk); have hx80_1 := hcc80 1 _ rfl; (try simp only [show (k31).sz = 2 from rfl, Nat.mul_one, Nat.add_zero] at hx80_1); have hf80_1 := hfr80 1; (try simp only [show (k31).sz = 2 from rfl, Nat.mul_one, Nat.add_zero] at hf80_1); clear hcl80 hcc80 hfr80 hM80) | ((with_reducible refine gate_store (t := 22) (p := 94) rfl ?_); refine store_event (t := 22) (p := 94) (v := ?vo_w81) (w1 := (w78.setCell ⟨go63, ((ji60) : Int).toNat * 2 + 1, none⟩ (.int .u64 (IntKind.u64.wrap (1 + (IntKind.u64.wrap (Int.tdiv (IntKind.u64.wrap (((rd_T31 y723 (ji60)).f1) - 1)) 2))))))) ?hg ?ho ?hn ?hr ?_; (case ho => rfl); (case hg => rfl); (case hn => rfl); (case hr => first | (go_simp; done) | (go_simp; rfl)); intro w81 hw; have hg : w78.grownBy w81 (some go63) := (by rw [hw]; exact HP80.2); have hp_ : Kd.R k31 31 w81 w.heap.size (fun _ => True) (.slice (some ⟨go63, 0, none⟩) y723.length co79) y727 := (by rw [hw, Ny727.out]; exact HP80.1); clear HP80; have n0_ := Aside0.mk (blk_grown (g := gb706) (o := .cells #[.int .i64 a0_0, .int .u64 a0_1, .int .u64 a0_2, .int .u64 a0_3, .int .u64 a0_4, .slice A0_5 l0_5.length c0_5, .int .i64 a0_6, .int .u64 a0_7] 55 (0, 0)) (bk BK706) hg (Kd.R_ne HO725.out BK706.out (by decide))); have n1_ := Aside0.mk (blk_grown (g := gb708) (o := .cells #[.int .i64 a0_0, .int .u64 a0_1, .int .u64 a0_2, .int .u64 a0_3, .int .u64 a0_4] 24 (0, 0)) (bk BK708) hg (Kd.R_ne HO725.out BK708.out (by decide))); have n2_ := Aside0.mk (blk_grown (g := gb715) (o := .cells #[.int .i64 a0_0, .int .u64 x716001_23, .int .u64 x716002_23, .int .u64 x716003_23, .int .u64 a0_4] 24 (0, 0)) (bk BK715) hg (Kd.R_ne HO725.out BK715.out (by decide))); have n3_ := Aside0.mk (hp_); have n4_ := Aside0.mk ((by rw [hw]; exact below_set (HB.out) GB63.out : Below w.heap.size w w81)); clear BK706; clear BK708; clear BK715; clear HO725; clear HB; have BK706 := n0_; have BK708 := n1_; have BK715 := n2_; have HO725 := n3_; have HB := n4_; clear n0_ n1_ n2_ n3_ n4_; clear hg hw hp_; have hnb82 := NB708_706.out; have hnc82 := NB706_708.out; obtain ⟨hcz83_0, hcz83_1, hcz83_2, hcz83_3, hcz83_4, hfz83_0, hfz83_1, hfz83_2, hfz83_3, hfz83_4⟩ := bc5 BK708) | ((with_reducible refine gate_callee (f := 12) rfl ?_); refine goesL_ (some 97) rfl rfl Try.func12 (by kernel_rfl) rfl #[.agg #[.int .i64 a0_0, .int .u64 a0_1, .int .u64 a0_2, .int .u64 a0_3, .int .u64 a0_4], .slice (some ⟨go63, 0, none⟩) y727.length co79] rfl (by (try simp only [List.map_toArray, List.map_cons, List.map_nil]); first | done | (rw [show y727.length = y723.length from (Kd.R_reads' HO725.out).1.symm] <;> rfl) | rfl | (simp only [List.length_drop, List.length_take]; rfl)) ?_; (with_reducible refine (audit_Conforms.calls kj23 a0_0 a0_1 a0_2 a0_3 a0_4 _ _ y727 true _ ?side1 ?side2 A64.out).mono ?_); (case side1 => repeat (first | exact (Kd.R_reads' HO725.out).2.2 | (with_reducible refine Kd.C_alloc ?_ _) | (with_reducible refine Kd.C_drewN ?_ _) | (with_reducible refine Kd.C_drew ?_))); (case side2 => rw [show y727.length = y723.length from (Kd.R_reads' HO725.out).1.symm]; exact (Kd.R_reads' HO725.out).2.1); rintro e w84 ⟨rfl, hb⟩; refine ⟨_, rfl, ?_⟩; have n0_ := Aside0.mk (Kd.R_below (by (with_reducible repeat (first | apply Kd.R_alloc | apply Kd.R_drewN | apply Kd.R_drew)); exact HO725.out) hb); have n1_ := bb BK706 hb; have n2_ := bb BK708 hb; have n3_ := bb BK715 hb; have n4_ := bs HB hb; clear HO725; clear BK706; clear BK708; clear BK715; clear HB; have HO725 := n0_; have BK706 := n1_; have BK708 := n2_; have BK715 := n3_; have HB := n4_; clear n0_ n1_ n2_ n3_ n4_; (try clear hb); (try clear hb2); (try clear hk); (try clear hi); have p729 : 0 ≤ ((ji60) : Int) := of_decide_eq_true (by first | (with_reducible assumption) | assumption); have q729 : (ji60) < (l0_5.length : Int) := of_decide_eq_true (by first | (with_reducible assumption) | assumption); obtain ⟨ad729, e729, hx729_0, hx729_1⟩ := at_T31 HR0_5.out (ji60) p729 q729; cases e729; replace hx729_0 := (HB.out.cell (World.block_lt_of_cell? w _ hx729_0)).trans hx729_0; replace hx729_1 := (HB.out.cell (World.block_lt_of_cell? w _ hx729_1)).trans hx729_1; replace p729 := eq_true p729; replace q729 := eq_true q729; have p67 : 0 ≤ ((ji60) : Int) := of_decide_eq_true (by first | (with_reducible assumption) | assumption); have q67 : ((ji60) : Int) < ((y723.length : Int) : Int) := of_decide_eq_true (by first | (with_reducible assumption) | assumption); obtain ⟨ce67, hcl67, hM67, hcc67, hfr67⟩ := Kd.R_elem HO725.out z31 ((ji60) : Int) p67 q67; obtain rfl := k31_openM hM67; have hx67_0 : w84.cell? ⟨go63, ((ji60) : Int).toNat * 2, none⟩ = some (.int .u64 ((rd_T31 y727 (ji60)).f0)) := hcc67 0 _ rfl; have hx67_1 : w84.cell? ⟨go63, ((ji60) : Int).toNat * 2 + 1, none⟩ = some (.int .u64 ((rd_T31 y727 (ji60)).f1)) := hcc67 1 _ rfl; have hf67_0 : w84.frozen? ⟨go63, ((ji60) : Int).toNat * 2, none⟩ = false := hfr67 0; have hf67_1 : w84.frozen? ⟨go63, ((ji60) : Int).toNat * 2 + 1, none⟩ = false := hfr67 1; clear hcl67 hcc67 hfr67 hM67; replace p67 := eq_true p67; replace q67 := eq_true q67; have HX85 := Aside0.mk (show Kd.R k31 31 w84 w.heap.size (fun _ => True) (.slice (some ⟨go63, 0, none⟩) y723.length co79) y727 from (by (with_reducible repeat (first | apply Kd.R_alloc | apply Kd.R_drewN | apply Kd.R_drew)); exact HO725.out)); obtain ⟨ce85, hcl85, hM85, hcc85, hfr85⟩ := Kd.R_elem HX85.out z31 ((ji60) : Int) (of_decide_eq_true (by first | (with_reducible assumption) | assumption)) (by have h_ : ((ji60) : Int) < ((y723.length : Int) : Int) := of_decide_eq_true (by first | (with_reducible assumption) | assumption); first | exact h_ | (have e_ := (Kd.R_reads' HO725.out).1; omega) | simpa using h_); obtain rfl := k31_openM hM85; have HP85 := Kd.R_seg HX85.out ((ji60) : Int) (of_decide_eq_true (by first | (with_reducible assumption) | assumption)) (by have h_ : ((ji60) : Int) < ((y723.length : Int) : Int) := of_decide_eq_true (by first | (with_reducible assumption) | assumption); first | exact h_ | (have e_ := (Kd.R_reads' HO725.out).1; omega) | simpa using h_) (seg := [.int .u64 ((rd_T31 l0_5 (ji60)).f1)]) (j := 1) hcl85 hcc85 (show 2 ≤ 2 from by decide) (x' := (⟨(rd_T31 y727 (ji60)).f0, (rd_T31 l0_5 (ji60)).f1⟩ : S31)) (k31_mkM _ _ _ (⟨(rd_T31 y727 (ji60)).f0, (rd_T31 l0_5 (ji60)).f1⟩ : S31) ) (fun _ hk => hk); have hx85_1 := hcc85 1 _ rfl; (try simp only [show (k31).sz = 2 from rfl, Nat.mul_one, Nat.add_zero] at hx85_1); have hf85_1 := hfr85 1; (try simp only [show (k31).sz = 2 from rfl, Nat.mul_one, Nat.add_zero] at hf85_1); clear hcl85 hcc85 hfr85 hM85) | ((with_reducible refine gate_store (t := 22) (p := 107) rfl ?_); refine store_event (t := 22) (p := 107) (v := ?vo_w86) (w1 := (w84.setCell ⟨go63, ((ji60) : Int).toNat * 2 + 1, none⟩ (.int .u64 ((rd_T31 l0_5 (ji60)).f1)))) ?hg ?ho ?hn ?hr ?_; (case ho => rfl); (case hg => rfl); (case hn => rfl); (case hr => first | (go_simp; done) | (go_simp; rfl)); intro w86 hw; have hg : w84.grownBy w86 (some go63) := (by rw [hw]; exact HP85.2); have hp_ : Kd.R k31 31 w86 w.heap.size (fun _ => True) (.slice (some ⟨go63, 0, none⟩) y723.length co79) y730 := (by rw [hw, Ny730.out]; exact HP85.1); clear HP85; have n0_ := Aside0.mk (blk_grown (g := gb706) (o := .cells #[.int .i64 a0_0, .int .u64 a0_1, .int .u64 a0_2, .int .u64 a0_3, .int .u64 a0_4, .slice (some ad729) l0_5.length c0_5, .int .i64 a0_6, .int .u64 a0_7] 55 (0, 0)) (bk BK706) hg (Kd.R_ne HO725.out BK706.out (by decide))); have n1_ := Aside0.mk (blk_grown (g := gb708) (o := .cells #[.int .i64 a0_0, .int .u64 a0_1, .int .u64 a0_2, .int .u64 a0_3, .int .u64 a0_4] 24 (0, 0)) (bk BK708) hg (Kd.R_ne HO725.out BK708.out (by decide))); have n2_ := Aside0.mk (blk_grown (g := gb715) (o := .cells #[.int .i64 a0_0, .int .u64 x716001_23, .int .u64 x716002_23, .int .u64 x716003_23, .int .u64 a0_4] 24 (0, 0)) (bk BK715) hg (Kd.R_ne HO725.out BK715.out (by decide))); have n3_ := Aside0.mk (hp_); have n4_ := Aside0.mk ((by rw [hw]; exact below_set (HB.out) GB63.out : Below w.heap.size w w86)); clear BK706; clear BK708; clear BK715; clear HO725; clear HB; have BK706 := n0_; have BK708 := n1_; have BK715 := n2_; have HO725 := n3_; have HB := n4_; clear n0_ n1_ n2_ n3_ n4_; clear hg hw hp_; have p731 : 0 ≤ ((ji60) : Int) := of_decide_eq_true (by first | (with_reducible assumption) | assumption); have q731 : (ji60) < (y730.length : Int) := (by have h_ : ((ji60) : Int) < ((y723.length : Int) : Int) := of_decide_eq_true (by first | (with_reducible assumption) | assumption); first | (have e_ := (Kd.R_reads' HO725.out).1; omega) | simpa only [Ny727.out, Ny730.out, List.length_set] using h_); have ql731 : (((ji60) : Int) < ((y723.length : Int) : Int)) = True := eq_true (of_decide_eq_true (by first | (with_reducible assumption) | assumption)); obtain ⟨ad731, e731, hx731_0, hx731_1⟩ := at_T31 (Kd.R_reads' HO725.out).2.2 (ji60) p731 q731; obtain rfl : (⟨go63, 0, none⟩ : Addr) = ad731 := (by injection e731); (first | simp only [add_plain] at hx731_0 | simp only [add_at] at hx731_0 | simp only [Addr.add, Nat.zero_add] at hx731_0 | skip); (first | simp only [add_plain] at hx731_1 | simp only [add_at] at hx731_1 | simp only [Addr.add, Nat.zero_add] at hx731_1 | skip); replace p731 := eq_true p731; replace q731 := eq_true q731) | ((with_reducible refine gate_callee (f := 22) rfl ?_); refine goesL_ (some 116) rfl rfl Try.func22 (by kernel_rfl) rfl #[.int .u64 ((rd_T31 y730 (ji60)).f0), .int .u64 a0_7] rfl (by (try simp only [List.map_toArray, List.map_cons, List.map_nil]); first | done | (simp only [hji60]; rfl) | rfl | (simp only [List.length_drop, List.length_take]; rfl)) ?_; (with_reducible refine (sat_Add.calls ((rd_T31 y730 (ji60)).f0) a0_7 t732 _ A68.out).mono ?_); rintro e w' ⟨rfl, ⟨nd, rfl⟩⟩; refine ⟨_, rfl, ?_⟩; (try (rw [drewN_self w86]; generalize hq_ : World.drewN w86 _ = w86; have n0_ : Aside0 (Kd.R k31 31 w86 w.heap.size (fun _ => True) (.slice (some ⟨go63, 0, none⟩) y723.length co79) y730) := ⟨by rw [← hq_]; exact (by (with_reducible repeat (first | apply Kd.R_alloc | apply Kd.R_drewN | apply Kd.R_drew)); exact HO725.out)⟩; have n1_ : Aside0 (w86.heap[gb706]? = some (.cells #[.int .i64 a0_0, .int .u64 a0_1, .int .u64 a0_2, .int .u64 a0_3, .int .u64 a0_4, .slice (some ad729) l0_5.length c0_5, .int .i64 a0_6, .int .u64 a0_7] 55 (0, 0))) := ⟨by rw [← hq_]; exact (bk BK706)⟩; have n2_ : Aside0 (w86.heap[gb708]? = some (.cells #[.int .i64 a0_0, .int .u64 a0_1, .int .u64 a0_2, .int .u64 a0_3, .int .u64 a0_4] 24 (0, 0))) := ⟨by rw [← hq_]; exact (bk BK708)⟩; have n3_ : Aside0 (w86.heap[gb715]? = some (.cells #[.int .i64 a0_0, .int .u64 x716001_23, .int .u64 x716002_23, .int .u64 x716003_23, .int .u64 a0_4] 24 (0, 0))) := ⟨by rw [← hq_]; exact (bk BK715)⟩; have n4_ : Aside0 (Below w.heap.size w w86) := ⟨by rw [← hq_]; exact (bw HB)⟩; clear HO725 BK706 BK708 BK715 HB hq_; have HO725 := n0_; have BK706 := n1_; have BK708 := n2_; have BK715 := n3_; have HB := n4_; clear n0_ n1_ n2_ n3_ n4_)); have p69 : 0 ≤ ((ji60) : Int) := of_decide_eq_true (by first | (with_reducible assumption) | assumption); have q69 : ((ji60) : Int) < ((y723.length : Int) : Int) := of_decide_eq_true (by first | (with_reducible assumption) | assumption); obtain ⟨ce69, hcl69, hM69, hcc69, hfr69⟩ := Kd.R_elem HO725.out z31 ((ji60) : Int) p69 q69; obtain rfl := k31_openM hM69; have hx69_0 : w86.cell? ⟨go63, ((ji60) : Int).toNat * 2, none⟩ = some (.int .u64 ((rd_T31 y730 (ji60)).f0)) := hcc69 0 _ rfl; have hx69_1 : w86.cell? ⟨go63, ((ji60) : Int).toNat * 2 + 1, none⟩ = some (.int .u64 ((rd_T31 y730 (ji60)).f1)) := hcc69 1 _ rfl; have hf69_0 : w86.frozen? ⟨go63, ((ji60) : Int).toNat * 2, none⟩ = false := hfr69 0; have hf69_1 : w86.frozen? ⟨go63, ((ji60) : Int).toNat * 2 + 1, none⟩ = false := hfr69 1; clear hcl69 hcc69 hfr69 hM69; replace p69 := eq_true p69; replace q69 := eq_true q69; have HX87 := Aside0.mk (show Kd.R k31 31 w86 w.heap.size (fun _ => True) (.slice (some ⟨go63, 0, none⟩) y723.length co79) y730 from (by (with_reducible repeat (first | apply Kd.R_alloc | apply Kd.R_drewN | apply Kd.R_drew)); exact HO725.out)); obtain ⟨ce87, hcl87, hM87, hcc87, hfr87⟩ := Kd.R_elem HX87.out z31 ((ji60) : Int) (of_decide_eq_true (by first | (with_reducible assumption) | assumption)) (by have h_ : ((ji60) : Int) < ((y723.length : Int) : Int) := of_decide_eq_true (by first | (with_reducible assumption) | assumption); first | exact h_ | (have e_ := (Kd.R_reads' HO725.out).1; omega) | simpa using h_); obtain rfl := k31_openM hM87; have HP87 := Kd.R_seg HX87.out ((ji60) : Int) (of_decide_eq_true (by first | (with_reducible assumption) | assumption)) (by have h_ : ((ji60) : Int) < ((y723.length : Int) : Int) := of_decide_eq_true (by first | (with_reducible assumption) | assumption); first | exact h_ | (have e_ := (Kd.R_reads' HO725.out).1; omega) | simpa using h_) (seg := [.int .u64 t732]) (j := 0) hcl87 hcc87 (show 1 ≤ 2 from by decide) (x' := (⟨t732, (rd_T31 y730 (ji60)).f1⟩ : S31)) (k31_mkM _ _ _ (⟨t732, (rd_T31 y730 (ji60)).f1⟩ : S31) ) (fun _ hk => hk); have hx87_0 := hcc87 0 _ rfl; (try simp only [show (k31).sz = 2 from rfl, Nat.mul_one, Nat.add_zero] at hx87_0); have hf87_0 := hfr87 0; (try simp only [show (k31).sz = 2 from rfl, Nat.mul_one, Nat.add_zero] at hf87_0); clear hcl87 hcc87 hfr87 hM87) | ((with_reducible refine gate_store (t := 22) (p := 118) rfl ?_); refine store_event (t := 22) (p := 118) (v := ?vo_w88) (w1 := (w86.setCell ⟨go63, ((ji60) : Int).toNat * 2, none⟩ (.int .u64 t732))) ?hg ?ho ?hn ?hr ?_; (case ho => rfl); (case hg => rfl); (case hn => rfl); (case hr => first | (go_simp; done) | (go_simp; rfl)); intro w88 hw; have hg : w86.grownBy w88 (some go63) := (by rw [hw]; exact HP87.2); have hp_ : Kd.R k31 31 w88 w.heap.size (fun _ => True) (.slice (some ⟨go63, 0, none⟩) y723.length co79) y733 := (by rw [hw, Ny733.out]; exact HP87.1); clear HP87; have n0_ := Aside0.mk (blk_grown (g := gb706) (o := .cells #[.int .i64 a0_0, .int .u64 a0_1, .int .u64 a0_2, .int .u64 a0_3, .int .u64 a0_4, .slice (some ad729) l0_5.length c0_5, .int .i64 a0_6, .int .u64 a0_7] 55 (0, 0)) (bk BK706) hg (Kd.R_ne HO725.out BK706.out (by decide))); have n1_ := Aside0.mk (blk_grown (g := gb708) (o := .cells #[.int .i64 a0_0, .int .u64 a0_1, .int .u64 a0_2, .int .u64 a0_3, .int .u64 a0_4] 24 (0, 0)) (bk BK708) hg (Kd.R_ne HO725.out BK708.out (by decide))); have n2_ := Aside0.mk (blk_grown (g := gb715) (o := .cells #[.int .i64 a0_0, .int .u64 x716001_23, .int .u64 x716002_23, .int .u64 x716003_23, .int .u64 a0_4] 24 (0, 0)) (bk BK715) hg (Kd.R_ne HO725.out BK715.out (by decide))); have n3_ := Aside0.mk (hp_); have n4_ := Aside0.mk ((by rw [hw]; exact below_set (HB.out) GB63.out : Below w.heap.size w w88)); clear BK706; clear BK708; clear BK715; clear HO725; clear HB; have BK706 := n0_; have BK708 := n1_; have BK715 := n2_; have HO725 := n3_; have HB := n4_; clear n0_ n1_ n2_ n3_ n4_; clear hg hw hp_; obtain ⟨hcz89_0, hcz89_1, hcz89_2, hcz89_3, hcz89_4, hfz89_0, hfz89_1, hfz89_2, hfz89_3, hfz89_4⟩ := bc5 BK708) | (go_at_call 12; refine calls_of_args (args' := #[.agg #[.int .i64 a0_0, .int .u64 a0_1, .int .u64 a0_2, .int .u64 a0_3, .int .u64 a0_4], .slice (some ⟨go63, 0, none⟩) y733.length co79]) (by first | (rw [show y733.length = y723.length from (Kd.R_reads' HO725.out).1.symm] <;> rfl) | rfl) ?_; (with_reducible refine (audit_Conforms.calls kj23 a0_0 a0_1 a0_2 a0_3 a0_4 _ _ y733 t734 _ ?side1 ?side2 A71.out).mono ?_); (case side1 => repeat (first | exact (Kd.R_reads' HO725.out).2.2 | (with_reducible refine Kd.C_alloc ?_ _) | (with_reducible refine Kd.C_drewN ?_ _) | (with_reducible refine Kd.C_drew ?_))); (case side2 => rw [show y733.length = y723.length from (Kd.R_reads' HO725.out).1.symm]; exact (Kd.R_reads' HO725.out).2.1); rintro e w90 ⟨rfl, hb⟩; have n0_ := Aside0.mk (Kd.R_below (by (with_reducible repeat (first | apply Kd.R_alloc | apply Kd.R_drewN | apply Kd.R_drew)); exact HO725.out) hb); have n1_ := bb BK706 hb; have n2_ := bb BK708 hb; have n3_ := bb BK715 hb; have n4_ := bs HB hb; clear HO725; clear BK706; clear BK708; clear BK715; clear HB; have HO725 := n0_; have BK706 := n1_; have BK708 := n2_; have BK715 := n3_; have HB := n4_; clear n0_ n1_ n2_ n3_ n4_; (try clear hb); (try clear hb2); (try clear hk); (try clear hi)))
                                          go_ret
                                          exact ⟨by first | rfl | (simp [errW_none, errW_some] <;> rfl) | (simp only [← hji19, ← hji60]; first | rfl | (simp [errW_none, errW_some] <;> rfl)) | (simp [*, errW_none, errW_some] <;> rfl), bw HB⟩
                                        · rw [if_neg c70] at H
                                          have c70b0 : (a0_0 == 1) = false := beq_eq_false_iff_ne.mpr c70
                                          have c70b1 : (a0_0 != 1) = true := bne_iff_ne.mpr c70
                                          obtain rfl := Option.some.inj H
                                          have hnb91 := NB715_706.out
                                          have hnc91 := NB706_715.out
                                          have hnb92 := NB715_708.out
                                          have hnc92 := NB708_715.out
                                          obtain ⟨hcz93_0, hcz93_1, hcz93_2, hcz93_3, hcz93_4, hfz93_0, hfz93_1, hfz93_2, hfz93_3, hfz93_4⟩ := bc5 BK715
                                          go_wp2_with (first | ((with_reducible refine gate_callee (f := 12) rfl ?_); refine gl (some 69) Try.func12 #[.agg #[.int .i64 a0_0, .int .u64 x716001_23, .int .u64 x716002_23, .int .u64 x716003_23, .int .u64 a0_4], .slice A0_5 l0_5.length c0_5] ?_; (with_reducible refine (audit_Conforms.calls kj23 a0_0 x716001_23 x716002_23 x716003_23 a0_4 _ _ l0_5 true _ ?side1 ?side2 A50.out).mono ?_); (case side1 => repeat (first | exact (Kd.C_below HR0_5.out HB.out) | (with_reducible refine Kd.C_alloc ?_ _) | (with_reducible refine Kd.C_drewN ?_ _) | (with_reducible refine Kd.C_drew ?_))); (case side2 => exact HC0_5.out); rintro e w94 ⟨rfl, hb⟩; refine ⟨_, rfl, ?_⟩; have n0_ := bb BK706 hb; have n1_ := bb BK708 hb; have n2_ := bb BK715 hb; have n3_ := bs HB hb; clear BK706; clear BK708; clear BK715; clear HB; have BK706 := n0_; have BK708 := n1_; have BK715 := n2_; have HB := n3_; clear n0_ n1_ n2_ n3_; (try clear hb); (try clear hb2); (try clear hk); (try clear hi)) | ((with_reducible refine gate_dst (N := 76) rfl ?_); refine Kd.R_make0 k31 _ 31 rfl (N := 76) rfl 25 _ _ rfl (l0_5.length : Int) rfl rfl Try.underlying25 (.agg #[(.int .u64 0), (.int .u64 0)]) 16 info31 rfl (by decide) (by omega) z31 (ok := fun _ => True) (okp := fun _ => True) (k31_mkM _ _ _ z31 ) (fun _ hk => hk) trivial (of_decide_eq_true (by first | (with_reducible assumption) | assumption)) (Nat.le_trans (Nat.mul_le_mul_right _ (of_decide_eq_true (by first | (with_reducible assumption) | assumption) : (l0_5.length : Int).toNat ≤ 17592186044416)) (by omega)) (Below.refl _ _) (Nat.le_refl _) ?_; intro v721 w95 ho96 hb hg_ hnew_; clear hg_ hnew_; (first | rw [← Ny720.out] at ho96 | (simp only [Int.reduceToNat] at ho96; rw [← Ny720.out] at ho96)); have n0_ := Aside0.mk (Kd.R_lower ho96 (below_size (bw HB))); have n1_ := bb BK706 hb; have n2_ := bb BK708 hb; have n3_ := bb BK715 hb; have n4_ := bs HB hb; clear BK706; clear BK708; clear BK715; clear HB; have HO722 := n0_; have BK706 := n1_; have BK708 := n2_; have BK715 := n3_; have HB := n4_; clear n0_ n1_ n2_ n3_ n4_; clear hb ho96) | ((with_reducible refine gate_builtin (b := .append) (xs := #[.tmp 77, .tmp 78]) rfl ?_); at_builtin; refine Kd.R_append_rows k31 (w0 := w) w.heap.size rfl (.tmp 77) (.tmp 78) 25 31 (.agg #[(.int .u64 0), (.int .u64 0)]) 16 rfl Try.underlying25 info31 rfl (by decide) (by omega) v721 y720 l0_5 _ _ _ (fun _ => True) (fun _ => False) rfl rfl ?aO ?aR (fun _ _ h => h) (fun _ h => h.elim) ?aF ?aB ?aS ?aL ?_; (case aR => repeat (first | exact (Kd.C_below HR0_5.out HB.out) | (with_reducible refine Kd.C_alloc ?_ _) | (with_reducible refine Kd.C_drewN ?_ _) | (with_reducible refine Kd.C_drew ?_))); (case aB => exact (bw HB)); (case aF => exact (fun _ _ => trivial)); (case aO => exact (by (with_reducible repeat (first | apply Kd.R_alloc | apply Kd.R_drewN | apply Kd.R_drew)); exact HO722.out)); (case aS => exact (below_size (bw HB))); (case aL => have := LMc59.out; omega); intro v724 w97 ho hb hg hat; rw [← Ny723.out] at ho; have n0_ := Aside0.mk (blk_grown (g := gb706) (o := .cells #[.int .i64 a0_0, .int .u64 a0_1, .int .u64 a0_2, .int .u64 a0_3, .int .u64 a0_4, .slice A0_5 l0_5.length c0_5, .int .i64 a0_6, .int .u64 a0_7] 55 (0, 0)) (bk BK706) hg (Kd.R_ne HO722.out BK706.out (by decide))); have n1_ := Aside0.mk (blk_grown (g := gb708) (o := .cells #[.int .i64 a0_0, .int .u64 a0_1, .int .u64 a0_2, .int .u64 a0_3, .int .u64 a0_4] 24 (0, 0)) (bk BK708) hg (Kd.R_ne HO722.out BK708.out (by decide))); have n2_ := Aside0.mk (blk_grown (g := gb715) (o := .cells #[.int .i64 a0_0, .int .u64 x716001_23, .int .u64 x716002_23, .int .u64 x716003_23, .int .u64 a0_4] 24 (0, 0)) (bk BK715) hg (Kd.R_ne HO722.out BK715.out (by decide))); have n3_ := Aside0.mk (hb); have n4_ := Aside0.mk (ho); clear BK706; clear BK708; clear BK715; clear HB; clear HO722; have BK706 := n0_; have BK708 := n1_; have BK715 := n2_; have HB := n3_; have HO725 := n4_; clear n0_ n1_ n2_ n3_ n4_; clear ho hb hg hat; obtain ⟨Ao98, co98, eo98⟩ := Kd.R_slice HO725.out; subst eo98; have p726 : 0 ≤ ((ji60) : Int) := of_decide_eq_true (by first | (with_reducible assumption) | assumption); have q726 : (ji60) < (y723.length : Int) := of_decide_eq_true (by first | (with_reducible assumption) | assumption); obtain ⟨ad726, e726, hx726_0, hx726_1⟩ := at_T31 (Kd.R_reads' HO725.out).2.2 (ji60) p726 q726; cases e726; replace p726 := eq_true p726; replace q726 := eq_true q726; have p63 : 0 ≤ ((ji60) : Int) := of_decide_eq_true (by first | (with_reducible assumption) | assumption); have q63 : ((ji60) : Int) < ((y723.length : Int) : Int) := of_decide_eq_true (by first | (with_reducible assumption) | assumption); obtain ⟨go63, co63, eo63, gb63, gl63, cl63, HG63⟩ := Kd.R_form HO725.out (by omega); (first | cases eo63 | (injection eo63 with ea_ en_ ec_; (first | subst ea_ | (injection ea_ with ea_; subst ea_)); subst ec_; clear en_)); have GB63 := Aside0.mk gb63; have GG63 := Aside0.mk HG63; clear gb63 gl63 HG63; (first | simp only [add_plain] at hx726_0 | skip); (first | simp only [add_plain] at hx726_1 | skip); obtain ⟨ce63, hcl63, hM63, hcc63, hfr63⟩ := Kd.R_elem HO725.out z31 ((ji60) : Int) p63 q63; obtain rfl := k31_openM hM63; have hx63_0 : w97.cell? ⟨go63, ((ji60) : Int).toNat * 2, none⟩ = some (.int .u64 ((rd_T31 y723 (ji60)).f0)) := hcc63 0 _ rfl; have hx63_1 : w97.cell? ⟨go63, ((ji60) : Int).toNat * 2 + 1, none⟩ = some (.int .u64 ((rd_T31 y723 (ji60)).f1)) := hcc63 1 _ rfl; have hf63_0 : w97.frozen? ⟨go63, ((ji60) : Int).toNat * 2, none⟩ = false := hfr63 0; have hf63_1 : w97.frozen? ⟨go63, ((ji60) : Int).toNat * 2 + 1, none⟩ = false := hfr63 1; clear hcl63 hcc63 hfr63 hM63; replace p63 := eq_true p63; replace q63 := eq_true q63; have HX99 := Aside0.mk (show Kd.R k31 31 w97 w.heap.size (fun _ => True) (.slice (some ⟨go63, 0, none⟩) y723.length co98) y723 from (by (with_reducible repeat (first | apply Kd.R_alloc | apply Kd.R_drewN | apply Kd.R_drew)); exact HO725.out)); obtain ⟨ce99, hcl99, hM99, hcc99, hfr99⟩ := Kd.R_elem HX99.out z31 ((ji60) : Int) (of_decide_eq_true (by first | (with_reducible assumption) | assumption)) (by have h_ : ((ji60) : Int) < ((y723.length : Int) : Int) := of_decide_eq_true (by first | (with_reducible assumption) | assumption); first | exact h_ | (have e_ := (Kd.R_reads' HO725.out).1; omega) | simpa using h_); obtain rfl := k31_openM hM99; have HP99 := Kd.R_seg HX99.out ((ji60) : Int) (of_decide_eq_true (by first | (with_reducible assumption) | assumption)) (by have h_ : ((ji60) : Int) < ((y723.length : Int) : Int) := of_decide_eq_true (by first | (with_reducible assumption) | assumption); first | exact h_ | (have e_ := (Kd.R_reads' HO725.out).1; omega) | simpa using h_) (seg := [.int .u64 (IntKind.u64.wrap (1 + (IntKind.u64.wrap (Int.tdiv (IntKind.u64.wrap (((rd_T31 y723 (ji60)).f1) - 1)) 2))))]) (j := 1) hcl99 hcc99 (show 2 ≤ 2 from by decide) (x' := (⟨(rd_T31 y723 (ji60)).f0, IntKind.u64.wrap (1 + (IntKind.u64.wrap (Int.tdiv (IntKind.u64.wrap (((rd_T31 y723 (ji60)).f1) - 1)) 2)))⟩ : S31)) (k31_mkM _ _ _ (⟨(rd_T31 y723 (ji60)).f0, IntKind.u64.wrap (1 + (IntKind.u64.wrap (Int.tdiv (IntKind.u64.wrap (((rd_T31 y723 (ji60)).f1) - 1)) 2)))⟩ : S31) ) (fun _ hk => hk); have hx99_1 := hcc99 1 _ rfl; (try simp only [show (k31).sz = 2 from rfl, Nat.mul_one, Nat.add_zero] at hx99_1); have hf99_1 := hfr99 1; (try simp only [show (k31).sz = 2 from rfl, Nat.mul_one, Nat.add_zero] at hf99_1); clear hcl99 hcc99 hfr99 hM99) | ((with_reducible refine gate_store (t := 22) (p := 94) rfl ?_); refine store_event (t := 22) (p := 94) (v := ?vo_w100) (w1 := (w97.setCell ⟨go63, ((ji60) : Int).toNat * 2 + 1, none⟩ (.int .u64 (IntKind.u64.wrap (1 + (IntKind.u64.wrap (Int.tdiv (IntKind.u64.wrap (((rd_T31 y723 (ji60)).f1) - 1)) 2))))))) ?hg ?ho ?hn ?hr ?_; (case ho => rfl); (case hg => rfl); (case hn => rfl); (case hr => first | (go_simp; done) | (go_simp; rfl)); intro w100 hw; have hg : w97.grownBy w100 (some go63) := (by rw [hw]; exact HP99.2); have hp_ : Kd.R k31 31 w100 w.heap.size (fun _ => True) (.slice (some ⟨go63, 0, none⟩) y723.length co98) y727 := (by rw [hw, Ny727.out]; exact HP99.1); clear HP99; have n0_ := Aside0.mk (blk_grown (g := gb706) (o := .cells #[.int .i64 a0_0, .int .u64 a0_1, .int .u64 a0_2, .int .u64 a0_3, .int .u64 a0_4, .slice A0_5 l0_5.length c0_5, .int .i64 a0_6, .int .u64 a0_7] 55 (0, 0)) (bk BK706) hg (Kd.R_ne HO725.out BK706.out (by decide))); have n1_ := Aside0.mk (blk_grown (g := gb708) (o := .cells #[.int .i64 a0_0, .int .u64 a0_1, .int .u64 a0_2, .int .u64 a0_3, .int .u64 a0_4] 24 (0, 0)) (bk BK708) hg (Kd.R_ne HO725.out BK708.out (by decide))); have n2_ := Aside0.mk (blk_grown (g := gb715) (o := .cells #[.int .i64 a0_0, .int .u64 x716001_23, .int .u64 x716002_23, .int .u64 x716003_23, .int .u64 a0_4] 24 (0, 0)) (bk BK715) hg (Kd.R_ne HO725.out BK715.out (by decide))); have n3_ := Aside0.mk (hp_); have n4_ := Aside0.mk ((by rw [hw]; exact below_set (HB.out) GB63.out : Below w.heap.size w w100)); clear BK706; clear BK708; clear BK715; clear HO725; clear HB; have BK706 := n0_; have BK708 := n1_; have BK715 := n2_; have HO725 := n3_; have HB := n4_; clear n0_ n1_ n2_ n3_ n4_; clear hg hw hp_; have hnb101 := NB708_706.out; have hnc101 := NB706_708.out; obtain ⟨hcz102_0, hcz102_1, hcz102_2, hcz102_3, hcz102_4, hfz102_0, hfz102_1, hfz102_2, hfz102_3, hfz102_4⟩ := bc5 BK708) | ((with_reducible refine gate_callee (f := 12) rfl ?_); refine goesL_ (some 97) rfl rfl Try.func12 (by kernel_rfl) rfl #[.agg #[.int .i64 a0_0, .int .u64 a0_1, .int .u64 a0_2, .int .u64 a0_3, .int .u64 a0_4], .slice (some ⟨go63, 0, none⟩) y727.length co98] rfl (by (try simp only [List.map_toArray, List.map_cons, List.map_nil]); first | done | (rw [show y727.length = y723.length from (Kd.R_reads' HO725.out).1.symm] <;> rfl) | rfl | (simp only [List.length_drop, List.length_take]; rfl)) ?_; (with_reducible refine (audit_Conforms.calls kj23 a0_0 a0_1 a0_2 a0_3 a0_4 _ _ y727 true _ ?side1 ?side2 A64.out).mono ?_); (case side1 => repeat (first | exact (Kd.R_reads' HO725.out).2.2 | (with_reducible refine Kd.C_alloc ?_ _) | (with_reducible refine Kd.C_drewN ?_ _) | (with_reducible refine Kd.C_drew ?_))); (case side2 => rw [show y727.length = y723.length from (Kd.R_reads' HO725.out).1.symm]; exact (Kd.R_reads' HO725.out).2.1); rintro e w103 ⟨rfl, hb⟩; refine ⟨_, rfl, ?_⟩; have n0_ := Aside0.mk (Kd.R_below (by (with_reducible repeat (first | apply Kd.R_alloc | apply Kd.R_drewN | apply Kd.R_drew)); exact HO725.out) hb); have n1_ := bb BK706 hb; have n2_ := bb BK708 hb; have n3_ := bb BK715 hb; have n4_ := bs HB hb; clear HO725; clear BK706; clear BK708; clear BK715; clear HB; have HO725 := n0_; have BK706 := n1_; have BK708 := n2_; have BK715 := n3_; have HB := n4_; clear n0_ n1_ n2_ n3_ n4_; (try clear hb); (try clear hb2); (try clear hk); (try clear hi); have p729 : 0 ≤ ((ji60) : Int) := of_decide_eq_true (by first | (with_reducible assumption) | assumption); have q729 : (ji60) < (l0_5.length : Int) := of_decide_eq_true (by first | (with_reducible assumption) | assumption); obtain ⟨ad729, e729, hx729_0, hx729_1⟩ := at_T31 HR0_5.out (ji60) p729 q729; cases e729; replace hx729_0 := (HB.out.cell (World.block_lt_of_cell? w _ hx729_0)).trans hx729_0; replace hx729_1 := (HB.out.cell (World.block_lt_of_cell? w _ hx729_1)).trans hx729_1; replace p729 := eq_true p729; replace q729 := eq_true q729; have p67 : 0 ≤ ((ji60) : Int) := of_decide_eq_true (by first | (with_reducible assumption) | assumption); have q67 : ((ji60) : Int) < ((y723.length : Int) : Int) := of_decide_eq_true (by first | (with_reducible assumption) | assumption); obtain ⟨ce67, hcl67, hM67, hcc67, hfr67⟩ := Kd.R_elem HO725.out z31 ((ji60) : Int) p67 q67; obtain rfl := k31_openM hM67; have hx67_0 : w103.cell? ⟨go63, ((ji60) : Int).toNat * 2, none⟩ = some (.int .u64 ((rd_T31 y727 (ji60)).f0)) := hcc67 0 _ rfl; have hx67_1 : w103.cell? ⟨go63, ((ji60) : Int).toNat * 2 + 1, none⟩ = some (.int .u64 ((rd_T31 y727 (ji60)).f1)) := hcc67 1 _ rfl; have hf67_0 : w103.frozen? ⟨go63, ((ji60) : Int).toNat * 2, none⟩ = false := hfr67 0; have hf67_1 : w103.frozen? ⟨go63, ((ji60) : Int).toNat * 2 + 1, none⟩ = false := hfr67 1; clear hcl67 hcc67 hfr67 hM67; replace p67 := eq_true p67; replace q67 := eq_true q67; have HX104 := Aside0.mk (show Kd.R k31 31 w103 w.heap.size (fun _ => True) (.slice (some ⟨go63, 0, none⟩) y723.length co98) y727 from (by (with_reducible repeat (first | apply Kd.R_alloc | apply Kd.R_drewN | apply Kd.R_drew)); exact HO725.out)); obtain ⟨ce104, hcl104, hM104, hcc104, hfr104⟩ := Kd.R_elem HX104.out z31 ((ji60) : Int) (of_decide_eq_true (by first | (with_reducible assumption) | assumption)) (by have h_ : ((ji60) : Int) < ((y723.length : Int) : Int) := of_decide_eq_true (by first | (with_reducible assumption) | assumption); first | exact h_ | (have e_ := (Kd.R_reads' HO725.out).1; omega) | simpa using h_); obtain rfl := k31_openM hM104; have HP104 := Kd.R_seg HX104.out ((ji60) : Int) (of_decide_eq_true (by first | (with_reducible assumption) | assumption)) (by have h_ : ((ji60) : Int) < ((y723.length : Int) : Int) := of_decide_eq_true (by first | (with_reducible assumption) | assumption); first | exact h_ | (have e_ := (Kd.R_reads' HO725.out).1; omega) | simpa using h_) (seg := [.int .u64 ((rd_T31 l0_5 (ji60)).f1)]) (j := 1) hcl104 hcc104 (show 2 ≤ 2 from by decide) (x' := (⟨(rd_T31 y727 (ji60)).f0, (rd_T31 l0_5 (ji60)).f1⟩ : S31)) (k31_mkM _ _ _ (⟨(rd_T31 y727 (ji60)).f0, (rd_T31 l0_5 (ji60)).f1⟩ : S31) ) (fun _ hk => hk); have hx104_1 := hcc104 1 _ rfl; (try simp only [show (k31).sz = 2 from rfl, Nat.mul_one, Nat.add_zero] at hx104_1); have hf104_1 := hfr104 1; (try simp only [show (k31).sz = 2 from rfl, Nat.mul_one, Nat.add_zero] at hf104_1); clear hcl104 hcc104 hfr104 hM104) | ((with_reducible refine gate_store (t := 22) (p := 107) rfl ?_); refine store_event (t := 22) (p := 107) (v := ?vo_w105) (w1 := (w103.setCell ⟨go63, ((ji60) : Int).toNat * 2 + 1, none⟩ (.int .u64 ((rd_T31 l0_5 (ji60)).f1)))) ?hg ?ho ?hn ?hr ?_; (case ho => rfl); (case hg => rfl); (case hn => rfl); (case hr => first | (go_simp; done) | (go_simp; rfl)); intro w105 hw; have hg : w103.grownBy w105 (some go63) := (by rw [hw]; exact HP104.2); have hp_ : Kd.R k31 31 w105 w.heap.size (fun _ => True) (.slice (some ⟨go63, 0, none⟩) y723.length co98) y730 := (by rw [hw, Ny730.out]; exact HP104.1); clear HP104; have n0_ := Aside0.mk (blk_grown (g := gb706) (o := .cells #[.int .i64 a0_0, .int .u64 a0_1, .int .u64 a0_2, .int .u64 a0_3, .int .u64 a0_4, .slice (some ad729) l0_5.length c0_5, .int .i64 a0_6, .int .u64 a0_7] 55 (0, 0)) (bk BK706) hg (Kd.R_ne HO725.out BK706.out (by decide))); have n1_ := Aside0.mk (blk_grown (g := gb708) (o := .cells #[.int .i64 a0_0, .int .u64 a0_1, .int .u64 a0_2, .int .u64 a0_3, .int .u64 a0_4] 24 (0, 0)) (bk BK708) hg (Kd.R_ne HO725.out BK708.out (by decide))); have n2_ := Aside0.mk (blk_grown (g := gb715) (o := .cells #[.int .i64 a0_0, .int .u64 x716001_23, .int .u64 x716002_23, .int .u64 x716003_23, .int .u64 a0_4] 24 (0, 0)) (bk BK715) hg (Kd.R_ne HO725.out BK715.out (by decide))); have n3_ := Aside0.mk (hp_); have n4_ := Aside0.mk ((by rw [hw]; exact below_set (HB.out) GB63.out : Below w.heap.size w w105)); clear BK706; clear BK708; clear BK715; clear HO725; clear HB; have BK706 := n0_; have BK708 := n1_; have BK715 := n2_; have HO725 := n3_; have HB := n4_; clear n0_ n1_ n2_ n3_ n4_; clear hg hw hp_; have p731 : 0 ≤ ((ji60) : Int) := of_decide_eq_true (by first | (with_reducible assumption) | assumption); have q731 : (ji60) < (y730.length : Int) := (by have h_ : ((ji60) : Int) < ((y723.length : Int) : Int) := of_decide_eq_true (by first | (with_reducible assumption) | assumption); first | (have e_ := (Kd.R_reads' HO725.out).1; omega) | simpa only [Ny727.out, Ny730.out, List.length_set] using h_); have ql731 : (((ji60) : Int) < ((y723.length : Int) : Int)) = True := eq_true (of_decide_eq_true (by first | (with_reducible assumption) | assumption)); obtain ⟨ad731, e731, hx731_0, hx731_1⟩ := at_T31 (Kd.R_reads' HO725.out).2.2 (ji60) p731 q731; obtain rfl : (⟨go63, 0, none⟩ : Addr) = ad731 := (by injection e731); (first | simp only [add_plain] at hx731_0 | simp only [add_at] at hx731_0 | simp only [Addr.add, Nat.zero_add] at hx731_0 | skip); (first | simp only [add_plain] at hx731_1 | simp only [add_at] at hx731_1 | simp only [Addr.add, Nat.zero_add] at hx731_1 | skip); replace p731 := eq_true p731; replace q731 := eq_true q731) | ((with_reducible refine gate_callee (f := 22) rfl ?_); refine goesL_ (some 116) rfl rfl Try.func22 (by kernel_rfl) rfl #[.int .u64 ((rd_T31 y730 (ji60)).f0), .int .u64 a0_7] rfl (by (try simp only [List.map_toArray, List.map_cons, List.map_nil]); first | done | (simp only [hji60]; rfl) | rfl | (simp only [List.length_drop, List.length_take]; rfl)) ?_; (with_reducible refine (sat_Add.calls ((rd_T31 y730 (ji60)).f0) a0_7 t732 _ A68.out).mono ?_); rintro e w' ⟨rfl, ⟨nd, rfl⟩⟩; refine ⟨_, rfl, ?_⟩; (try (rw [drewN_self w105]; generalize hq_ : World.drewN w105 _ = w105; have n0_ : Aside0 (Kd.R k31 31 w105 w.heap.size (fun _ => True) (.slice (some ⟨go63, 0, none⟩) y723.length co98) y730) := ⟨by rw [← hq_]; exact (by (with_reducible repeat (first | apply Kd.R_alloc | apply Kd.R_drewN | apply Kd.R_drew)); exact HO725.out)⟩; have n1_ : Aside0 (w105.heap[gb706]? = some (.cells #[.int .i64 a0_0, .int .u64 a0_1, .int .u64 a0_2, .int .u64 a0_3, .int .u64 a0_4, .slice (some ad729) l0_5.length c0_5, .int .i64 a0_6, .int .u64 a0_7] 55 (0, 0))) := ⟨by rw [← hq_]; exact (bk BK706)⟩; have n2_ : Aside0 (w105.heap[gb708]? = some (.cells #[.int .i64 a0_0, .int .u64 a0_1, .int .u64 a0_2, .int .u64 a0_3, .int .u64 a0_4] 24 (0, 0))) := ⟨by rw [← hq_]; exact (bk BK708)⟩; have n3_ : Aside0 (w105.heap[gb715]? = some (.cells #[.int .i64 a0_0, .int .u64 x716001_23, .int .u64 x716002_23, .int .u64 x716003_23, .int .u64 a0_4] 24 (0, 0))) := ⟨by rw [← hq_]; exact (bk BK715)⟩; have n4_ : Aside0 (Below w.heap.size w w105) := ⟨by rw [← hq_]; exact (bw HB)⟩; clear HO725 BK706 BK708 BK715 HB hq_; have HO725 := n0_; have BK706 := n1_; have BK708 := n2_; have BK715 := n3_; have HB := n4_; clear n0_ n1_ n2_ n3_ n4_)); have p69 : 0 ≤ ((ji60) : Int) := of_decide_eq_true (by first | (with_reducible assumption) | assumption); have q69 : ((ji60) : Int) < ((y723.length : Int) : Int) := of_decide_eq_true (by first | (with_reducible assumption) | assumption); obtain ⟨ce69, hcl69, hM69, hcc69, hfr69⟩ := Kd.R_elem HO725.out z31 ((ji60) : Int) p69 q69; obtain rfl := k31_openM hM69; have hx69_0 : w105.cell? ⟨go63, ((ji60) : Int).toNat * 2, none⟩ = some (.int .u64 ((rd_T31 y730 (ji60)).f0)) := hcc69 0 _ rfl; have hx69_1 : w105.cell? ⟨go63, ((ji60) : Int).toNat * 2 + 1, none⟩ = some (.int .u64 ((rd_T31 y730 (ji60)).f1)) := hcc69 1 _ rfl; have hf69_0 : w105.frozen? ⟨go63, ((ji60) : Int).toNat * 2, none⟩ = false := hfr69 0; have hf69_1 : w105.frozen? ⟨go63, ((ji60) : Int).toNat * 2 + 1, none⟩ = false := hfr69 1; clear hcl69 hcc69 hfr69 hM69; replace p69 := eq_true p69; replace q69 := eq_true q69; have HX106 := Aside0.mk (show Kd.R k31 31 w105 w.heap.size (fun _ => True) (.slice (some ⟨go63, 0, none⟩) y723.length co98) y730 from (by (with_reducible repeat (first | apply Kd.R_alloc | apply Kd.R_drewN | apply Kd.R_drew)); exact HO725.out)); obtain ⟨ce106, hcl106, hM106, hcc106, hfr106⟩ := Kd.R_elem HX106.out z31 ((ji60) : Int) (of_decide_eq_true (by first | (with_reducible assumption) | assumption)) (by have h_ : ((ji60) : Int) < ((y723.length : Int) : Int) := of_decide_eq_true (by first | (with_reducible assumption) | assumption); first | exact h_ | (have e_ := (Kd.R_reads' HO725.out).1; omega) | simpa using h_); obtain rfl := k31_openM hM106; have HP106 := Kd.R_seg HX106.out ((ji60) : Int) (of_decide_eq_true (by first | (with_reducible assumption) | assumption)) (by have h_ : ((ji60) : Int) < ((y723.length : Int) : Int) := of_decide_eq_true (by first | (with_reducible assumption) | assumption); first | exact h_ | (have e_ := (Kd.R_reads' HO725.out).1; omega) | simpa using h_) (seg := [.int .u64 t732]) (j := 0) hcl106 hcc106 (show 1 ≤ 2 from by decide) (x' := (⟨t732, (rd_T31 y730 (ji60)).f1⟩ : S31)) (k31_mkM _ _ _ (⟨t732, (rd_T31 y730 (ji60)).f1⟩ : S31) ) (fun _ hk => hk); have hx106_0 := hcc106 0 _ rfl; (try simp only [show (k31).sz = 2 from rfl, Nat.mul_one, Nat.add_zero] at hx106_0); have hf106_0 := hfr106 0; (try simp only [show (k31).sz = 2 from rfl, Nat.mul_one, Nat.add_zero] at hf106_0); clear hcl106 hcc106 hfr106 hM106) | ((with_reducible refine gate_store (t := 22) (p := 118) rfl ?_); refine store_event (t := 22) (p := 118) (v := ?vo_w107) (w1 := (w105.setCell ⟨go63, ((ji60) : Int).toNat * 2, none⟩ (.int .u64 t732))) ?hg ?ho ?hn ?hr ?_; (case ho => rfl); (case hg => rfl); (case hn => rfl); (case hr => first | (go_simp; done) | (go_simp; rfl)); intro w107 hw; have hg : w105.grownBy w107 (some go63) := (by rw [hw]; exact HP106.2); have hp_ : Kd.R k31 31 w107 w.heap.size (fun _ => True) (.slice (some ⟨go63, 0, none⟩) y723.length co98) y733 := (by rw [hw, Ny733.out]; exact HP106.1); clear HP106; have n0_ := Aside0.mk (blk_grown (g := gb706) (o := .cells #[.int .i64 a0_0, .int .u64 a0_1, .int .u64 a0_2, .int .u64 a0_3, .int .u64 a0_4, .slice (some ad729) l0_5.length c0_5, .int .i64 a0_6, .int .u64 a0_7] 55 (0, 0)) (bk BK706) hg (Kd.R_ne HO725.out BK706.out (by decide))); have n1_ := Aside0.mk (blk_grown (g := gb708) (o := .cells #[.int .i64 a0_0, .int .u64 a0_1, .int .u64 a0_2, .int .u64 a0_3, .int .u64 a0_4] 24 (0, 0)) (bk BK708) hg (Kd.R_ne HO725.out BK708.out (by decide))); have n2_ := Aside0.mk (blk_grown (g := gb715) (o := .cells #[.int .i64 a0_0, .int .u64 x716001_23, .int .u64 x716002_23, .int .u64 x716003_23, .int .u64 a0_4] 24 (0, 0)) (bk BK715) hg (Kd.R_ne HO725.out BK715.out (by decide))); have n3_ := Aside0.mk (hp_); have n4_ := Aside0.mk ((by rw [hw]; exact below_set (HB.out) GB63.out : Below w.heap.size w w107)); clear BK706; clear BK708; clear BK715; clear HO725; clear HB; have BK706 := n0_; have BK708 := n1_; have BK715 := n2_; have HO725 := n3_; have HB := n4_; clear n0_ n1_ n2_ n3_ n4_; clear hg hw hp_; obtain ⟨hcz108_0, hcz108_1, hcz108_2, hcz108_3, hcz108_4, hfz108_0, hfz108_1, hfz108_2, hfz108_3, hfz108_4⟩ := bc5 BK708))
                                          go_ret
                                          exact ⟨by first | rfl | (simp [errW_none, errW_some] <;> rfl) | (simp only [← hji19, ← hji60]; first | rfl | (simp [errW_none, errW_some] <;> rfl)) | (simp [*, errW_none, errW_some] <;> rfl), bw HB⟩
                                      · rw [if_neg c66] at H
                                        exact absurd H (by simp)
                                    · replace c65 := Bool.eq_false_iff.mpr c65
                                      subst c65
                                      have H1 : (some false) = some r := by rw [if_neg (show ¬ (false = true) by decide)] at H; exact H
                                      clear H
                                      have H := H1
                                      clear H1
                                      obtain rfl := Option.some.inj H
                                      have hnb109 := NB715_706.out
                                      have hnc109 := NB706_715.out
                                      have hnb110 := NB715_708.out
                                      have hnc110 := NB708_715.out
                                      obtain ⟨hcz111_0, hcz111_1, hcz111_2, hcz111_3, hcz111_4, hfz111_0, hfz111_1, hfz111_2, hfz111_3, hfz111_4⟩ := bc5 BK715
                                      go_wp2_with (first | ((with_reducible refine gate_callee (f := 12) rfl ?_); refine gl (some 69) Try.func12 #[.agg #[.int .i64 a0_0, .int .u64 x716001_23, .int .u64 x716002_23, .int .u64 x716003_23, .int .u64 a0_4], .slice A0_5 l0_5.length c0_5] ?_; (with_reducible refine (audit_Conforms.calls kj23 a0_0 x716001_23 x716002_23 x716003_23 a0_4 _ _ l0_5 true _ ?side1 ?side2 A50.out).mono ?_); (case side1 => repeat (first | exact (Kd.C_below HR0_5.out HB.out) | (with_reducible refine Kd.C_alloc ?_ _) | (with_reducible refine Kd.C_drewN ?_ _) | (with_reducible refine Kd.C_drew ?_))); (case side2 => exact HC0_5.out); rintro e w112 ⟨rfl, hb⟩; refine ⟨_, rfl, ?_⟩; have n0_ := bb BK706 hb; have n1_ := bb BK708 hb; have n2_ := bb BK715 hb; have n3_ := bs HB hb; clear BK706; clear BK708; clear BK715; clear HB; have BK706 := n0_; have BK708 := n1_; have BK715 := n2_; have HB := n3_; clear n0_ n1_ n2_ n3_; (try clear hb); (try clear hb2); (try clear hk); (try clear hi)) | ((with_reducible refine gate_dst (N := 76) rfl ?_); refine Kd.R_make0 k31 _ 31 rfl (N := 76) rfl 25 _ _ rfl (l0_5.length : Int) rfl rfl Try.underlying25 (.agg #[(.int .u64 0), (.int .u64 0)]) 16 info31 rfl (by decide) (by omega) z31 (ok := fun _ => True) (okp := fun _ => True) (k31_mkM _ _ _ z31 ) (fun _ hk => hk) trivial (of_decide_eq_true (by first | (with_reducible assumption) | assumption)) (Nat.le_trans (Nat.mul_le_mul_right _ (of_decide_eq_true (by first | (with_reducible assumption) | assumption) : (l0_5.length : Int).toNat ≤ 17592186044416)) (by omega)) (Below.refl _ _) (Nat.le_refl _) ?_; intro v721 w113 ho114 hb hg_ hnew_; clear hg_ hnew_; (first | rw [← Ny720.out] at ho114 | (simp only [Int.reduceToNat] at ho114; rw [← Ny720.out] at ho114)); have n0_ := Aside0.mk (Kd.R_lower ho114 (below_size (bw HB))); have n1_ := bb BK706 hb; have n2_ := bb BK708 hb; have n3_ := bb BK715 hb; have n4_ := bs HB hb; clear BK706; clear BK708; clear BK715; clear HB; have HO722 := n0_; have BK706 := n1_; have BK708 := n2_; have BK715 := n3_; have HB := n4_; clear n0_ n1_ n2_ n3_ n4_; clear hb ho114) | ((with_reducible refine gate_builtin (b := .append) (xs := #[.tmp 77, .tmp 78]) rfl ?_); at_builtin; refine Kd.R_append_rows k31 (w0 := w) w.heap.size rfl (.tmp 77) (.tmp 78) 25 31 (.agg #[(.int .u64 0), (.int .u64 0)]) 16 rfl Try.underlying25 info31 rfl (by decide) (by omega) v721 y720 l0_5 _ _ _ (fun _ => True) (fun _ => False) rfl rfl ?aO ?aR (fun _ _ h => h) (fun _ h => h.elim) ?aF ?aB ?aS ?aL ?_; (case aR => repeat (first | exact (Kd.C_below HR0_5.out HB.out) | (with_reducible refine Kd.C_alloc ?_ _) | (with_reducible refine Kd.C_drewN ?_ _) | (with_reducible refine Kd.C_drew ?_))); (case aB => exact (bw HB)); (case aF => exact (fun _ _ => trivial)); (case aO => exact (by (with_reducible repeat (first | apply Kd.R_alloc | apply Kd.R_drewN | apply Kd.R_drew)); exact HO722.out)); (case aS => exact (below_size (bw HB))); (case aL => have := LMc59.out; omega); intro v724 w115 ho hb hg hat; rw [← Ny723.out] at ho; have n0_ := Aside0.mk (blk_grown (g := gb706) (o := .cells #[.int .i64 a0_0, .int .u64 a0_1, .int .u64 a0_2, .int .u64 a0_3, .int .u64 a0_4, .slice A0_5 l0_5.length c0_5, .int .i64 a0_6, .int .u64 a0_7] 55 (0, 0)) (bk BK706) hg (Kd.R_ne HO722.out BK706.out (by decide))); have n1_ := Aside0.mk (blk_grown (g := gb708) (o := .cells #[.int .i64 a0_0, .int .u64 a0_1, .int .u64 a0_2, .int .u64 a0_3, .int .u64 a0_4] 24 (0, 0)) (bk BK708) hg (Kd.R_ne HO722.out BK708.out (by decide))); have n2_ := Aside0.mk (blk_grown (g := gb715) (o := .cells #[.int .i64 a0_0, .int .u64 x716001_23, .int .u64 x716002_23, .int .u64 x716003_23, .int .u64 a0_4] 24 (0, 0)) (bk BK715) hg (Kd.R_ne HO722.out BK715.out (by decide))); have n3_ := Aside0.mk (hb); have n4_ := Aside0.mk (ho); clear BK706; clear BK708; clear BK715; clear HB; clear HO722; have BK706 := n0_; have BK708 := n1_; have BK715 := n2_; have HB := n3_; have HO725 := n4_; clear n0_ n1_ n2_ n3_ n4_; clear ho hb hg hat; obtain ⟨Ao116, co116, eo116⟩ := Kd.R_slice HO725.out; subst eo116; have p726 : 0 ≤ ((ji60) : Int) := of_decide_eq_true (by first | (with_reducible assumption) | assumption); have q726 : (ji60) < (y723.length : Int) := of_decide_eq_true (by first | (with_reducible assumption) | assumption); obtain ⟨ad726, e726, hx726_0, hx726_1⟩ := at_T31 (Kd.R_reads' HO725.out).2.2 (ji60) p726 q726; cases e726; replace p726 := eq_true p726; replace q726 := eq_true q726; have p63 : 0 ≤ ((ji60) : Int) := of_decide_eq_true (by first | (with_reducible assumption) | assumption); have q63 : ((ji60) : Int) < ((y723.length : Int) : Int) := of_decide_eq_true (by first | (with_reducible assumption) | assumption); obtain ⟨go63, co63, eo63, gb63, gl63, cl63, HG63⟩ := Kd.R_form HO725.out (by omega); (first | cases eo63 | (injection eo63 with ea_ en_ ec_; (first | subst ea_ | (injection ea_ with ea_; subst ea_)); subst ec_; clear en_)); have GB63 := Aside0.mk gb63; have GG63 := Aside0.mk HG63; clear gb63 gl63 HG63; (first | simp only [add_plain] at hx726_0 | skip); (first | simp only [add_plain] at hx726_1 | skip); obtain ⟨ce63, hcl63, hM63, hcc63, hfr63⟩ := Kd.R_elem HO725.out z31 ((ji60) : Int) p63 q63; obtain rfl := k31_openM hM63; have hx63_0 : w115.cell? ⟨go63, ((ji60) : Int).toNat * 2, none⟩ = some (.int .u64 ((rd_T31 y723 (ji60)).f0)) := hcc63 0 _ rfl; have hx63_1 : w115.cell? ⟨go63, ((ji60) : Int).toNat * 2 + 1, none⟩ = some (.int .u64 ((rd_T31 y723 (ji60)).f1)) := hcc63 1 _ rfl; have hf63_0 : w115.frozen? ⟨go63, ((ji60) : Int).toNat * 2, none⟩ = false := hfr63 0; have hf63_1 : w115.frozen? ⟨go63, ((ji60) : Int).toNat * 2 + 1, none⟩ = false := hfr63 1; clear hcl63 hcc63 hfr63 hM63; replace p63 := eq_true p63; replace q63 := eq_true q63; have HX117 := Aside0.mk (show Kd.R k31 31 w115 w.heap.size (fun _ => True) (.slice (some ⟨go63, 0, none⟩) y723.length co116) y723 from (by (with_reducible repeat (first | apply Kd.R_alloc | apply Kd.R_drewN | apply Kd.R_drew)); exact HO725.out)); obtain ⟨ce117, hcl117, hM117, hcc117, hfr117⟩ := Kd.R_elem HX117.out z31 ((ji60) : Int) (of_decide_eq_true (by first | (with_reducible assumption) | assumption)) (by have h_ : ((ji60) : Int) < ((y723.length : Int) : Int) := of_decide_eq_true (by first | (with_reducible assumption) | assumption); first | exact h_ | (have e_ := (Kd.R_reads' HO725.out).1; omega) | simpa using h_); obtain rfl := k31_openM hM117; have HP117 := Kd.R_seg HX117.out ((ji60) : Int) (of_decide_eq_true (by first | (with_reducible assumption) | assumption)) (by have h_ : ((ji60) : Int) < ((y723.length : Int) : Int) := of_decide_eq_true (by first | (with_reducible assumption) | assumption); first | exact h_ | (have e_ := (Kd.R_reads' HO725.out).1; omega) | simpa using h_) (seg := [.int .u64 (IntKind.u64.wrap (1 + (IntKind.u64.wrap (Int.tdiv (IntKind.u64.wrap (((rd_T31 y723 (ji60)).f1) - 1)) 2))))]) (j := 1) hcl117 hcc117 (show 2 ≤ 2 from by decide) (x' := (⟨(rd_T31 y723 (ji60)).f0, IntKind.u64.wrap (1 + (IntKind.u64.wrap (Int.tdiv (IntKind.u64.wrap (((rd_T31 y723 (ji60)).f1) - 1)) 2)))⟩ : S31)) (k31_mkM _ _ _ (⟨(rd_T31 y723 (ji60)).f0, IntKind.u64.wrap (1 + (IntKind.u64.wrap (Int.tdiv (IntKind.u64.wrap (((rd_T31 y723 (ji60)).f1) - 1)) 2)))⟩ : S31) ) (fun _ hk => hk); have hx117_1 := hcc117 1 _ rfl; (try simp only [show (k31).sz = 2 from rfl, Nat.mul_one, Nat.add_zero] at hx117_1); have hf117_1 := hfr117 1; (try simp only [show (k31).sz = 2 from rfl, Nat.mul_one, Nat.add_zero] at hf117_1); clear hcl117 hcc117 hfr117 hM117) | ((with_reducible refine gate_store (t := 22) (p := 94) rfl ?_); refine store_event (t := 22) (p := 94) (v := ?vo_w118) (w1 := (w115.setCell ⟨go63, ((ji60) : Int).toNat * 2 + 1, none⟩ (.int .u64 (IntKind.u64.wrap (1 + (IntKind.u64.wrap (Int.tdiv (IntKind.u64.wrap (((rd_T31 y723 (ji60)).f1) - 1)) 2))))))) ?hg ?ho ?hn ?hr ?_; (case ho => rfl); (case hg => rfl); (case hn => rfl); (case hr => first | (go_simp; done) | (go_simp; rfl)); intro w118 hw; have hg : w115.grownBy w118 (some go63) := (by rw [hw]; exact HP117.2); have hp_ : Kd.R k31 31 w118 w.heap.size (fun _ => True) (.slice (some ⟨go63, 0, none⟩) y723.length co116) y727 := (by rw [hw, Ny727.out]; exact HP117.1); clear HP117; have n0_ := Aside0.mk (blk_grown (g := gb706) (o := .cells #[.int .i64 a0_0, .int .u64 a0_1, .int .u64 a0_2, .int .u64 a0_3, .int .u64 a0_4, .slice A0_5 l0_5.length c0_5, .int .i64 a0_6, .int .u64 a0_7] 55 (0, 0)) (bk BK706) hg (Kd.R_ne HO725.out BK706.out (by decide))); have n1_ := Aside0.mk (blk_grown (g := gb708) (o := .cells #[.int .i64 a0_0, .int .u64 a0_1, .int .u64 a0_2, .int .u64 a0_3, .int .u64 a0_4] 24 (0, 0)) (bk BK708) hg (Kd.R_ne HO725.out BK708.out (by decide))); have n2_ := Aside0.mk (blk_grown (g := gb715) (o := .cells #[.int .i64 a0_0, .int .u64 x716001_23, .int .u64 x716002_23, .int .u64 x716003_23, .int .u64 a0_4] 24 (0, 0)) (bk BK715) hg (Kd.R_ne HO725.out BK715.out (by decide))); have n3_ := Aside0.mk (hp_); have n4_ := Aside0.mk ((by rw [hw]; exact below_set (HB.out) GB63.out : Below w.heap.size w w118)); clear BK706; clear BK708; clear BK715; clear HO725; clear HB; have BK706 := n0_; have BK708 := n1_; have BK715 := n2_; have HO725 := n3_; have HB := n4_; clear n0_ n1_ n2_ n3_ n4_; clear hg hw hp_; have hnb119 := NB708_706.out; have hnc119 := NB706_708.out; obtain ⟨hcz120_0, hcz120_1, hcz120_2, hcz120_3, hcz120_4, hfz120_0, hfz120_1, hfz120_2, hfz120_3, hfz120_4⟩ := bc5 BK708) | ((with_reducible refine gate_callee (f := 12) rfl ?_); refine goesL_ (some 97) rfl rfl Try.func12 (by kernel_rfl) rfl #[.agg #[.int .i64 a0_0, .int .u64 a0_1, .int .u64 a0_2, .int .u64 a0_3, .int .u64 a0_4], .slice (some ⟨go63, 0, none⟩) y727.length co116] rfl (by (try simp only [List.map_toArray, List.map_cons, List.map_nil]); first | done | (rw [show y727.length = y723.length from (Kd.R_reads' HO725.out).1.symm] <;> rfl) | rfl | (simp only [List.length_drop, List.length_take]; rfl)) ?_; (with_reducible refine (audit_Conforms.calls kj23 a0_0 a0_1 a0_2 a0_3 a0_4 _ _ y727 false _ ?side1 ?side2 A64.out).mono ?_); (case side1 => repeat (first | exact (Kd.R_reads' HO725.out).2.2 | (with_reducible refine Kd.C_alloc ?_ _) | (with_reducible refine Kd.C_drewN ?_ _) | (with_reducible refine Kd.C_drew ?_))); (case side2 => rw [show y727.length = y723.length from (Kd.R_reads' HO725.out).1.symm]; exact (Kd.R_reads' HO725.out).2.1); rintro e w121 ⟨rfl, hb⟩; refine ⟨_, rfl, ?_⟩; have n0_ := Aside0.mk (Kd.R_below (by (with_reducible repeat (first | apply Kd.R_alloc | apply Kd.R_drewN | apply Kd.R_drew)); exact HO725.out) hb); have n1_ := bb BK706 hb; have n2_ := bb BK708 hb; have n3_ := bb BK715 hb; have n4_ := bs HB hb; clear HO725; clear BK706; clear BK708; clear BK715; clear HB; have HO725 := n0_; have BK706 := n1_; have BK708 := n2_; have BK715 := n3_; have HB := n4_; clear n0_ n1_ n2_ n3_ n4_; (try clear hb); (try clear hb2); (try clear hk); (try clear hi)))
                                      go_ret
                                      exact ⟨by first | rfl | (simp [errW_none, errW_some] <;> rfl) | (simp only [← hji19, ← hji60]; first | rfl | (simp [errW_none, errW_some] <;> rfl)) | (simp [*, errW_none, errW_some] <;> rfl), bw HB⟩
                                  · rw [if_neg c62] at H
                                    exact absurd H (by simp)
                                · rw [if_neg c61] at H
                                  exact absurd H (by simp)
                              · rw [if_neg c59] at H
                                exact absurd H (by simp)
                            · rw [if_neg c58] at H
                              exact absurd H (by simp)
                          · rw [if_neg c57] at H
                            exact absurd H (by simp)
                      · replace c51 := Bool.eq_false_iff.mpr c51
                        subst c51
                        have H1 : (some false) = some r := by rw [if_neg (show ¬ (false = true) by decide)] at H; exact H
                        clear H
                        have H := H1
                        clear H1
                        obtain rfl := Option.some.inj H
                        have hnb122 := NB715_706.out
                        have hnc122 := NB706_715.out
                        have hnb123 := NB715_708.out
                        have hnc123 := NB708_715.out
                        obtain ⟨hcz124_0, hcz124_1, hcz124_2, hcz124_3, hcz124_4, hfz124_0, hfz124_1, hfz124_2, hfz124_3, hfz124_4⟩ := bc5 BK715
                        go_wp2_with (first | ((with_reducible refine gate_callee (f := 12) rfl ?_); refine gl (some 69) Try.func12 #[.agg #[.int .i64 a0_0, .int .u64 x716001_23, .int .u64 x716002_23, .int .u64 x716003_23, .int .u64 a0_4], .slice A0_5 l0_5.length c0_5] ?_; (with_reducible refine (audit_Conforms.calls kj23 a0_0 x716001_23 x716002_23 x716003_23 a0_4 _ _ l0_5 false _ ?side1 ?side2 A50.out).mono ?_); (case side1 => repeat (first | exact (Kd.C_below HR0_5.out HB.out) | (with_reducible refine Kd.C_alloc ?_ _) | (with_reducible refine Kd.C_drewN ?_ _) | (with_reducible refine Kd.C_drew ?_))); (case side2 => exact HC0_5.out); rintro e w125 ⟨rfl, hb⟩; refine ⟨_, rfl, ?_⟩; have n0_ := bb BK706 hb; have n1_ := bb BK708 hb; have n2_ := bb BK715 hb; have n3_ := bs HB hb; clear BK706; clear BK708; clear BK715; clear HB; have BK706 := n0_; have BK708 := n1_; have BK715 := n2_; have HB := n3_; clear n0_ n1_ n2_ n3_; (try clear hb); (try clear hb2); (try clear hk); (try clear hi)))
                        go_ret
                        exact ⟨by first | rfl | (simp [errW_none, errW_some] <;> rfl) | (simp only [← hji19]; first | rfl | (simp [errW_none, errW_some] <;> rfl)) | (simp [*, errW_none, errW_some] <;> rfl), bw HB⟩
                · replace c23 := Bool.eq_false_iff.mpr c23
                  subst c23
                  have H1 : (some false) = some r := by rw [if_neg (show ¬ (false = true) by decide)] at H; exact H
                  clear H
                  have H := H1
                  clear H1
                  obtain rfl := Option.some.inj H
                  try go_wp2
                  have n0_ := Aside0.mk (blk_drew BK706.out)
                  have n1_ := Aside0.mk (blk_drew BK708.out)
                  have n2_ := Aside0.mk (below_drew1 HB.out)
                  clear BK706
                  clear BK708
                  clear HB
                  have BK706 := n0_
                  have BK708 := n1_
                  have HB := n2_
                  clear n0_ n1_ n2_
                  have q127 : ((ji19) : Int) ≤ ((l0_5.length : Int) : Int) := of_decide_eq_true (by first | (with_reducible assumption) | assumption)
                  obtain ⟨i0127, hi0127, _, hsz127, _⟩ := info_parts info31
                  have hroom127 : l0_5.length ≤ c0_5 := HC0_5.out
                  have hC127 : Kd.C k31 _ A0_5 l0_5.length l0_5 := HR0_5.out
                  have hcut127 := cut_to (P := Try.prog) 25 31 .i64 Try.underlying25 hi0127 A0_5 l0_5.length c0_5 (ji19) (of_decide_eq_true (by first | (with_reducible assumption) | assumption)) q127 hroom127
                  have hr127 := Kd.C_take (m := ((ji19) : Int).toNat) hC127 (by omega)
                  have hy127 : y710.length = ((ji19) : Int).toNat := (by rw [Ny710.out, List.length_take]; omega)
                  rw [← Ny710.out] at hr127
                  rw [← hy127] at hcut127
                  have HR713 := Aside0.mk hr127
                  have HC713 := Aside0.mk (show y710.length ≤ c0_5 from by omega)
                  clear hr127 hC127 hroom127 hi0127 hsz127
                  have KY127 := Aside0.mk hy127
                  clear hy127
                  replace q127 := eq_true q127
                  refine start_ (n := 6) (S := fun w' => w'.cell? ⟨gb708, 0, none⟩ = some (.int .i64 a0_0) ∧ w'.cell? ⟨gb708, 1, none⟩ = some (.int .u64 a0_1) ∧ w'.cell? ⟨gb708, 2, none⟩ = some (.int .u64 a0_2) ∧ w'.cell? ⟨gb708, 3, none⟩ = some (.int .u64 a0_3) ∧ w'.cell? ⟨gb708, 4, none⟩ = some (.int .u64 a0_4)) (ds := []) #[false, false, false, false, false, false] (by kernel_rfl) rfl rfl ⟨(blk_cell BK708.out 0).trans rfl, (blk_cell BK708.out 1).trans rfl, (blk_cell BK708.out 2).trans rfl, (blk_cell BK708.out 3).trans rfl, (blk_cell BK708.out 4).trans rfl⟩ (fun hHeld => ?_)
                  generalize wc.drew = w126 at BK706 BK708 HB HR713 hHeld ⊢
                  refine pure_ (i := 1) (N := some 39) (v := ?_) (a' := ?_) #[false, true, false, false, false, false] rfl rfl (by kernel_rfl) (fun _ _ _ h => h) (Or.inl ⟨by rfl, ?_⟩) ?_ ?_
                  rotate_left
                  · intro w'
                    go_simp
                    with_reducible rfl
                  rotate_left
                  · simp only [Act.put, List.setIfInBounds_toArray, List.set_cons_zero, List.set_cons_succ, i64_w, i32_w]
                    rfl
                  refine pure_ (i := 2) (N := some 40) (v := ?_) (a' := ?_) #[false, true, true, false, false, false] rfl rfl (by kernel_rfl) (fun _ _ _ h => h) (Or.inl ⟨by rfl, ?_⟩) ?_ ?_
                  rotate_left
                  · intro w'
                    go_simp
                    with_reducible rfl
                  rotate_left
                  · simp only [Act.put, List.setIfInBounds_toArray, List.set_cons_zero, List.set_cons_succ, i64_w, i32_w]
                    rfl
                  refine pure_ (i := 3) (N := some 41) (v := ?_) (a' := ?_) #[false, true, true, true, false, false] rfl rfl (by kernel_rfl) (fun _ _ _ h => h) (Or.inl ⟨by rfl, ?_⟩) ?_ ?_
                  rotate_left
                  · intro w'
                    go_simp
                    with_reducible rfl
                  rotate_left
                  · simp only [Act.put, List.setIfInBounds_toArray, List.set_cons_zero, List.set_cons_succ, i64_w, i32_w]
                    rfl
                  refine take_ (i := 0) (N := some 38) (v := ?_) (a' := ?_) #[true, true, true, true, false, false] rfl rfl (by kernel_rfl) (fun _ _ _ h => h) (Or.inl ⟨by rfl, ?_⟩) hHeld ?_ ?_
                  rotate_left
                  · rintro w' ⟨s0, s1, s2, s3, s4⟩
                    go_simp
                    with_reducible rfl
                  rotate_left
                  · simp only [Act.put, List.setIfInBounds_toArray, List.set_cons_zero, List.set_cons_succ, i64_w, i32_w]
                    rfl
                  refine one_ (i := 4) (N := some 42) #[true, true, true, true, true, false] rfl rfl (by kernel_rfl) (by decide) (fun K hK => ?_)
                  refine ge Try.func12 #[.agg #[.int .i64 a0_0, .int .u64 a0_1, .int .u64 a0_2, .int .u64 a0_3, .int .u64 a0_4], .slice A0_5 y710.length c0_5] ?_
                  with_reducible refine (audit_Conforms.calls kj3 a0_0 a0_1 a0_2 a0_3 a0_4 _ _ y710 false _ ?side1 ?side2 A22.out).mono ?_
                  (case side1 => repeat (first | exact (Kd.C_below HR713.out HB.out) | (with_reducible refine Kd.C_alloc ?_ _) | (with_reducible refine Kd.C_drewN ?_ _) | (with_reducible refine Kd.C_drew ?_)))
                  (case side2 => exact HC713.out)
                  rintro e w128 ⟨rfl, hb⟩
                  refine ⟨_, rfl, ?_⟩
                  have n0_ := bb BK706 hb
                  have n1_ := bb BK708 hb
                  have n2_ := bs HB hb
                  clear BK706
                  clear BK708
                  clear HB
                  have BK706 := n0_
                  have BK708 := n1_
                  have HB := n2_
                  clear n0_ n1_ n2_
                  (try clear hb)
                  (try clear hb2)
                  (try clear hk)
                  (try clear hi)
                  refine hK.out _ _ ⟨(blk_cell BK708.out 0).trans rfl, (blk_cell BK708.out 1).trans rfl, (blk_cell BK708.out 2).trans rfl, (blk_cell BK708.out 3).trans rfl, (blk_cell BK708.out 4).trans rfl⟩ (fun hHeld => ?_)
                  clear hK K
                  refine norm_ (a' := ?_) ?_ ?_
                  rotate_left
                  · show Act.put _ (some 42) _ = _
                    simp only [Act.put, List.setIfInBounds_toArray, List.set_cons_zero, List.set_cons_succ, i64_w, i32_w]
                    rfl
                  refine pure_ (i := 5) (N := some 43) (v := ?_) (a' := ?_) #[true, true, true, true, true, true] rfl rfl (by kernel_rfl) (fun _ _ _ h => h) (Or.inl ⟨by rfl, ?_⟩) ?_ ?_
                  rotate_left
                  · intro w'
                    go_simp
                    with_reducible rfl
                  rotate_left
                  · simp only [Act.put, List.setIfInBounds_toArray, List.set_cons_zero, List.set_cons_succ, i64_w, i32_w]
                    rfl
                  refine done_ (by kernel_rfl) ?_
                  try go_wp2
                  go_ret
                  exact ⟨by first | rfl | (simp [errW_none, errW_some] <;> rfl) | (simp only [← hji19]; first | rfl | (simp [errW_none, errW_some] <;> rfl)) | (simp [*, errW_none, errW_some] <;> rfl), bw HB⟩
              · rw [if_neg c21] at H
                exact absurd H (by simp)
            · rw [if_neg c20] at H
              exact absurd H (by simp)
  · replace c3 := Bool.eq_false_iff.mpr c3
    subst c3
    have H1 : (some false) = some r := by rw [if_neg (show ¬ (false = true) by decide)] at H; exact H
    clear H
    have H := H1
    clear H1
    obtain rfl := Option.some.inj H
    go_enter Try.func7, Try.ntmps7
    go_wp2_with (first | ((with_reducible refine gate_dst (N := 1) rfl ?_); refine bx 1 #[.int .i64 a0_0, .int .u64 a0_1, .int .u64 a0_2, .int .u64 a0_3, .int .u64 a0_4, .slice A0_5 l0_5.length c0_5, .int .i64 a0_6, .int .u64 a0_7] 55 ?_; intro gb706 hg w129 hbox hb; have n0_ := bs HB hb; have n1_ := Aside0.mk (hbox); have n2_ := sz HB hg; have n3_ := sz HB hg; clear HB; have HB := n0_; have BK706 := n1_; have GW706 := n2_; have GE706 := n3_; clear n0_ n1_ n2_ n3_; clear hb hbox hg) | ((with_reducible refine gate_callee (f := 9) rfl ?_); refine gm (some 11) Try.func9 #[] (turnstilelaw24_awake.calls k  false _ A2.out) ?_; intro w130 hb; have n0_ := bb BK706 hb; have n1_ := bs HB hb; clear BK706; clear HB; have BK706 := n0_; have HB := n1_; clear n0_ n1_; (try clear hb); (try clear hb2); (try clear hk); (try clear hi)))
    go_ret
    exact ⟨re, bw HB⟩


end Go.Proofs.Ytdoifmefhofnnaa.D
