/- Written by the session's own program hyb.py: what functions of the program compute; Lean checks it. -/
import Derived.Test.YtdoifmefhofnnaaDx0
import Derived.Test.YtdoifmefhofnnaaDx3
import Derived.Test.YtdoifmefhofnnaaDx22
import Derived.Test.YtdoifmefhofnnaaDx24
import Derived.Test.YtdoifmefhofnnaaDx25
namespace Go.Proofs.Ytdoifmefhofnnaa.D
open Go.RowKit Go.Proofs.YtdoifmefhofnnaaW.PrintWords Go.Proofs.YtdoifmefhofnnaaW.PrintLast Go.Proofs.YtdoifmefhofnnaaW.PrintMore Go.Proofs.YtdoifmefhofnnaaW.PrintShort
attribute [local go_sem] run_Add64 run_Sub64
attribute [local go_sem] max2_int min2_int max_two min_two max_three min_three max_four min_four   -- for this text's walks alone
set_option linter.unusedVariables false
set_option linter.unusedSimpArgs false

attribute [local go_sem high] eqA40
/-! ### turnstilelaw24_AuditSplits: function 5 -/
mutual
def turnstilelaw24_AuditSplits.j0 : Nat → List (S31) → Int → Int → Bool → Int → Int → Int → Int → Int → Option (Bool)
  | 0, _, _, _, _, _, _, _, _, _ => none
  | k + 1, x4, x5, x6, x36, x633000, x633001, x633002, x633003, x633004 => if x36 = true then (some true) else (if (IntKind.u64.wrap ((x4.length : Int))) = 0 then (none) else ((audit_Conforms.f k x633000 x633001 x633002 x633003 x633004 x4).bind fun t633 => ((audit_Level.f k x633000 x633001 x633002 x633003 x633004 x4).bind fun bt634 => (if 0 ≤ (wrap64 (Int.tmod (IntKind.u64.wrap (x5)) (IntKind.u64.wrap ((x4.length : Int))))) then (if (wrap64 (Int.tmod (IntKind.u64.wrap (x5)) (IntKind.u64.wrap ((x4.length : Int))))) < (x4.length : Int) then (if ((rd_T31 x4 (wrap64 (Int.tmod (IntKind.u64.wrap (x5)) (IntKind.u64.wrap ((x4.length : Int)))))).f1) > 1 then (if (IntKind.u64.wrap (((rd_T31 x4 (wrap64 (Int.tmod (IntKind.u64.wrap (x5)) (IntKind.u64.wrap ((x4.length : Int)))))).f1) - 1)) = 0 then (none) else (if (wrap64 (Int.tmod (IntKind.u64.wrap (x5)) (IntKind.u64.wrap ((x4.length : Int))))) ≤ (x4.length : Int) then ((some (x4.take ((wrap64 (Int.tmod (IntKind.u64.wrap (x5)) (IntKind.u64.wrap ((x4.length : Int))))) : Int).toNat : List (S31))).bind fun y641 => (if ([] : List (S31)).length + y641.length < 8796093022208 then ((some (([] : List (S31)) ++ y641 : List (S31))).bind fun y645 => (if y645.length < 8796093022208 then ((some (y645 ++ [(⟨(rd_T31 x4 (wrap64 (Int.tmod (IntKind.u64.wrap (x5)) (IntKind.u64.wrap ((x4.length : Int)))))).f0, IntKind.u64.wrap (1 + (Int.tmod x6 (IntKind.u64.wrap (((rd_T31 x4 (wrap64 (Int.tmod (IntKind.u64.wrap (x5)) (IntKind.u64.wrap ((x4.length : Int)))))).f1) - 1))))⟩ : S31)] : List (S31))).bind fun y649 => (if y649.length < 8796093022208 then ((some (y649 ++ [(⟨(rd_T31 x4 (wrap64 (Int.tmod (IntKind.u64.wrap (x5)) (IntKind.u64.wrap ((x4.length : Int)))))).f0, IntKind.u64.wrap (((rd_T31 x4 (wrap64 (Int.tmod (IntKind.u64.wrap (x5)) (IntKind.u64.wrap ((x4.length : Int)))))).f1) - (IntKind.u64.wrap (1 + (Int.tmod x6 (IntKind.u64.wrap (((rd_T31 x4 (wrap64 (Int.tmod (IntKind.u64.wrap (x5)) (IntKind.u64.wrap ((x4.length : Int)))))).f1) - 1))))))⟩ : S31)] : List (S31))).bind fun y654 => (if 0 ≤ (wrap64 ((wrap64 (Int.tmod (IntKind.u64.wrap (x5)) (IntKind.u64.wrap ((x4.length : Int))))) + 1)) then (if (wrap64 ((wrap64 (Int.tmod (IntKind.u64.wrap (x5)) (IntKind.u64.wrap ((x4.length : Int))))) + 1)) ≤ (x4.length : Int) then ((some (x4.drop ((wrap64 ((wrap64 (Int.tmod (IntKind.u64.wrap (x5)) (IntKind.u64.wrap ((x4.length : Int))))) + 1)) : Int).toNat : List (S31))).bind fun y657 => (if y654.length + y657.length < 8796093022208 then ((some (y654 ++ y657 : List (S31))).bind fun y661 => ((audit_Level.f k x633000 x633001 x633002 x633003 x633004 y661).bind fun bt664 => ((audit_Conforms.f k x633000 x633001 x633002 x633003 x633004 y661).bind fun t669 => (if (t669 != t633) = true then (some false) else (if (!(bt664.1 == bt634.1) || (!(bt664.2.1 == bt634.2.1) || (!(bt664.2.2.1 == bt634.2.2.1)))) = true then (some false) else (if (bt664.2.2.2 != bt634.2.2.2) = true then (some false) else (turnstilelaw24_AuditSplits.j1 k x4 t633 bt634.2.2.2 x633000 x633001 x633002 x633003 x633004 bt634.1 bt634.2.1 bt634.2.2.1))))))) else (none))) else (none)) else (none))) else (none))) else (none))) else (none))) else (none))) else (turnstilelaw24_AuditSplits.j1 k x4 t633 bt634.2.2.2 x633000 x633001 x633002 x633003 x633004 bt634.1 bt634.2.1 bt634.2.2.1)) else (none)) else (none)))))
def turnstilelaw24_AuditSplits.j1 : Nat → List (S31) → Bool → Bool → Int → Int → Int → Int → Int → Int → Int → Int → Option (Bool)
  | 0, _, _, _, _, _, _, _, _, _, _, _ => none
  | k + 1, x4, x8, x10, x633000, x633001, x633002, x633003, x633004, x639000, x639001, x639002 => if x633000 = 2 then (turnstilelaw24_AuditSplits.l0 k x4 x8 x10 ([] : List (S31)) 0 x633000 x633001 x633002 x633003 x633004 x639000 x639001 x639002) else (some true)
def turnstilelaw24_AuditSplits.l0 : Nat → List (S31) → Bool → Bool → List (S31) → Int → Int → Int → Int → Int → Int → Int → Int → Int → Option (Bool)
  | 0, _, _, _, _, _, _, _, _, _, _, _, _, _ => none
  | k + 1, x4, x8, x10, x15, x16, x633000, x633001, x633002, x633003, x633004, x639000, x639001, x639002 => if x16 < (x4.length : Int) then (if 0 ≤ (wrap64 ((wrap64 ((x4.length : Int) - 1)) - x16)) then (if (wrap64 ((wrap64 ((x4.length : Int) - 1)) - x16)) < (x4.length : Int) then (if x15.length < 8796093022208 then (turnstilelaw24_AuditSplits.l0 k x4 x8 x10 (x15 ++ [(⟨(rd_T31 x4 (wrap64 ((wrap64 ((x4.length : Int) - 1)) - x16))).f0, (rd_T31 x4 (wrap64 ((wrap64 ((x4.length : Int) - 1)) - x16))).f1⟩ : S31)]) (wrap64 (x16 + 1)) x633000 x633001 x633002 x633003 x633004 x639000 x639001 x639002) else (none)) else (none)) else (none)) else ((audit_Level.f k x633000 x633001 x633002 x633003 x633004 x15).bind fun bt674 => ((audit_Conforms.f k x633000 x633001 x633002 x633003 x633004 x15).bind fun t679 => (if (t679 == x8) = true then (if (bt674.1 == x639000 && (bt674.2.1 == x639001 && (bt674.2.2.1 == x639002))) = true then (some (bt674.2.2.2 == x10)) else (some false)) else (some false))))
end
def turnstilelaw24_AuditSplits.f (k : Nat) (a0_0 : Int) (a0_1 : Int) (a0_2 : Int) (a0_3 : Int) (a0_4 : Int) (l0_5 : List (S31)) (a0_6 : Int) (a0_7 : Int) : Option (Bool) := (turnstilelaw24_awake.f k).bind fun t631 => (if t631 = true then (if (l0_5.length : Int) = 0 then (turnstilelaw24_AuditSplits.j0 k l0_5 a0_6 a0_7 true a0_0 a0_1 a0_2 a0_3 a0_4) else (turnstilelaw24_AuditSplits.j0 k l0_5 a0_6 a0_7 (decide ((l0_5.length : Int) > 1048576)) a0_0 a0_1 a0_2 a0_3 a0_4)) else (some false))
theorem turnstilelaw24_AuditSplits.mono_l : ∀ k, (∀ y0 y1 y2 y3 y4 y5 y6 y7 y8, LeO (turnstilelaw24_AuditSplits.j0 k y0 y1 y2 y3 y4 y5 y6 y7 y8) (turnstilelaw24_AuditSplits.j0 (k + 1) y0 y1 y2 y3 y4 y5 y6 y7 y8)) ∧ (∀ y0 y1 y2 y3 y4 y5 y6 y7 y8 y9 y10, LeO (turnstilelaw24_AuditSplits.j1 k y0 y1 y2 y3 y4 y5 y6 y7 y8 y9 y10) (turnstilelaw24_AuditSplits.j1 (k + 1) y0 y1 y2 y3 y4 y5 y6 y7 y8 y9 y10)) ∧ (∀ y0 y1 y2 y3 y4 y5 y6 y7 y8 y9 y10 y11 y12, LeO (turnstilelaw24_AuditSplits.l0 k y0 y1 y2 y3 y4 y5 y6 y7 y8 y9 y10 y11 y12) (turnstilelaw24_AuditSplits.l0 (k + 1) y0 y1 y2 y3 y4 y5 y6 y7 y8 y9 y10 y11 y12))
  | 0 => ⟨fun _ _ _ _ _ _ _ _ _ r h => by simp [turnstilelaw24_AuditSplits.j0] at h, fun _ _ _ _ _ _ _ _ _ _ _ r h => by simp [turnstilelaw24_AuditSplits.j1] at h, fun _ _ _ _ _ _ _ _ _ _ _ _ _ r h => by simp [turnstilelaw24_AuditSplits.l0] at h⟩
  | k + 1 => by
    obtain ⟨ih0, ih1, ih2⟩ := turnstilelaw24_AuditSplits.mono_l k
    refine ⟨?_, ?_, ?_⟩
    · intro y0 y1 y2 y3 y4 y5 y6 y7 y8
      unfold turnstilelaw24_AuditSplits.j0
      repeat' first
      | (with_reducible exact ih0 _ _ _ _ _ _ _ _ _)
      | (with_reducible exact ih1 _ _ _ _ _ _ _ _ _ _ _)
      | (with_reducible exact ih2 _ _ _ _ _ _ _ _ _ _ _ _ _)
      | (with_reducible exact audit_Conforms.mono _ _ _ _ _ _ _)
      | (with_reducible exact audit_Level.mono _ _ _ _ _ _ _)
      | (with_reducible exact turnstilelaw24_awake.mono _)
      | (with_reducible exact LeO.refl _)
      | (with_reducible exact LeO.none _)
      | (with_reducible refine LeO.ite ?_ ?_)
      | (with_reducible refine LeO.bind ?_ (fun _ => ?_))
      | exact ih0 _ _ _ _ _ _ _ _ _
      | exact ih1 _ _ _ _ _ _ _ _ _ _ _
      | exact ih2 _ _ _ _ _ _ _ _ _ _ _ _ _
      | exact audit_Conforms.mono _ _ _ _ _ _ _
      | exact audit_Level.mono _ _ _ _ _ _ _
      | exact turnstilelaw24_awake.mono _
      | exact LeO.none _
      | refine LeO.ite ?_ ?_
      | refine LeO.bind ?_ (fun _ => ?_)
    · intro y0 y1 y2 y3 y4 y5 y6 y7 y8 y9 y10
      unfold turnstilelaw24_AuditSplits.j1
      repeat' first
      | (with_reducible exact ih0 _ _ _ _ _ _ _ _ _)
      | (with_reducible exact ih1 _ _ _ _ _ _ _ _ _ _ _)
      | (with_reducible exact ih2 _ _ _ _ _ _ _ _ _ _ _ _ _)
      | (with_reducible exact audit_Conforms.mono _ _ _ _ _ _ _)
      | (with_reducible exact audit_Level.mono _ _ _ _ _ _ _)
      | (with_reducible exact turnstilelaw24_awake.mono _)
      | (with_reducible exact LeO.refl _)
      | (with_reducible exact LeO.none _)
      | (with_reducible refine LeO.ite ?_ ?_)
      | (with_reducible refine LeO.bind ?_ (fun _ => ?_))
      | exact ih0 _ _ _ _ _ _ _ _ _
      | exact ih1 _ _ _ _ _ _ _ _ _ _ _
      | exact ih2 _ _ _ _ _ _ _ _ _ _ _ _ _
      | exact audit_Conforms.mono _ _ _ _ _ _ _
      | exact audit_Level.mono _ _ _ _ _ _ _
      | exact turnstilelaw24_awake.mono _
      | exact LeO.none _
      | refine LeO.ite ?_ ?_
      | refine LeO.bind ?_ (fun _ => ?_)
    · intro y0 y1 y2 y3 y4 y5 y6 y7 y8 y9 y10 y11 y12
      unfold turnstilelaw24_AuditSplits.l0
      repeat' first
      | (with_reducible exact ih0 _ _ _ _ _ _ _ _ _)
      | (with_reducible exact ih1 _ _ _ _ _ _ _ _ _ _ _)
      | (with_reducible exact ih2 _ _ _ _ _ _ _ _ _ _ _ _ _)
      | (with_reducible exact audit_Conforms.mono _ _ _ _ _ _ _)
      | (with_reducible exact audit_Level.mono _ _ _ _ _ _ _)
      | (with_reducible exact turnstilelaw24_awake.mono _)
      | (with_reducible exact LeO.refl _)
      | (with_reducible exact LeO.none _)
      | (with_reducible refine LeO.ite ?_ ?_)
      | (with_reducible refine LeO.bind ?_ (fun _ => ?_))
      | exact ih0 _ _ _ _ _ _ _ _ _
      | exact ih1 _ _ _ _ _ _ _ _ _ _ _
      | exact ih2 _ _ _ _ _ _ _ _ _ _ _ _ _
      | exact audit_Conforms.mono _ _ _ _ _ _ _
      | exact audit_Level.mono _ _ _ _ _ _ _
      | exact turnstilelaw24_awake.mono _
      | exact LeO.none _
      | refine LeO.ite ?_ ?_
      | refine LeO.bind ?_ (fun _ => ?_)
theorem turnstilelaw24_AuditSplits.mono : ∀ a0 a1 a2 a3 a4 a5 a6 a7 k, LeO (turnstilelaw24_AuditSplits.f k a0 a1 a2 a3 a4 a5 a6 a7) (turnstilelaw24_AuditSplits.f (k + 1) a0 a1 a2 a3 a4 a5 a6 a7) := by
  intro a0 a1 a2 a3 a4 a5 a6 a7 k
  obtain ⟨ih0, ih1, ih2⟩ := turnstilelaw24_AuditSplits.mono_l k
  unfold turnstilelaw24_AuditSplits.f
  repeat' first
      | (with_reducible exact ih0 _ _ _ _ _ _ _ _ _)
      | (with_reducible exact ih1 _ _ _ _ _ _ _ _ _ _ _)
      | (with_reducible exact ih2 _ _ _ _ _ _ _ _ _ _ _ _ _)
      | (with_reducible exact audit_Conforms.mono _ _ _ _ _ _ _)
      | (with_reducible exact audit_Level.mono _ _ _ _ _ _ _)
      | (with_reducible exact turnstilelaw24_awake.mono _)
      | (with_reducible exact LeO.refl _)
      | (with_reducible exact LeO.none _)
      | (with_reducible refine LeO.ite ?_ ?_)
      | (with_reducible refine LeO.bind ?_ (fun _ => ?_))
      | exact ih0 _ _ _ _ _ _ _ _ _
      | exact ih1 _ _ _ _ _ _ _ _ _ _ _
      | exact ih2 _ _ _ _ _ _ _ _ _ _ _ _ _
      | exact audit_Conforms.mono _ _ _ _ _ _ _
      | exact audit_Level.mono _ _ _ _ _ _ _
      | exact turnstilelaw24_awake.mono _
      | exact LeO.none _
      | refine LeO.ite ?_ ?_
      | refine LeO.bind ?_ (fun _ => ?_)
def turnstilelaw24_AuditSplits.T17 : Bool × List (List Nat × List Nat) := (true, [([], []), ([], []), ([], []), ([1, 2], [1, 2]), ([3], [3]), ([4], [4]), ([], []), ([], []), ([6, 7], [6, 7]), ([8], [8]), ([9], [9]), ([], []), ([10, 11], [10, 11]), ([5, 12], [5, 12]), ([13], [13]), ([0, 14], [0, 14]), ([15, 15, 0, 1, 2, 3, 4, 5, 6, 7, 8, 9, 10, 11, 12, 13, 14, 15], [0, 15])])
def turnstilelaw24_AuditSplits.B17 : List Nat := [0, 0, 0, 6, 14, 30, 0, 0, 192, 448, 960, 0, 4032, 8190, 16382, 32767, 65535]
theorem turnstilelaw24_AuditSplits.tab17 : rtab .any (opsOf Try.f5 17) = turnstilelaw24_AuditSplits.T17 := by kernel_rfl
theorem turnstilelaw24_AuditSplits.bits17 : waitsOk turnstilelaw24_AuditSplits.T17.2 turnstilelaw24_AuditSplits.B17 = true := by kernel_rfl
set_option maxHeartbeats 8000000 in
set_option maxRecDepth 100000 in
theorem turnstilelaw24_AuditSplits.calls (k : Nat) (a0_0 : Int) (a0_1 : Int) (a0_2 : Int) (a0_3 : Int) (a0_4 : Int) (A0_5 : Option Addr) (c0_5 : Nat) (l0_5 : List (S31)) (a0_6 : Int) (a0_7 : Int) (r : Bool) (w : World) (hr0_5 : Kd.C k31 w A0_5 l0_5.length l0_5) (hc0_5 : l0_5.length ≤ c0_5) (h : turnstilelaw24_AuditSplits.f k a0_0 a0_1 a0_2 a0_3 a0_4 l0_5 a0_6 a0_7 = some r) :
    Calls Try.prog 5 #[.agg #[.int .i64 a0_0, .int .u64 a0_1, .int .u64 a0_2, .int .u64 a0_3, .int .u64 a0_4, .slice A0_5 l0_5.length c0_5, .int .i64 a0_6, .int .u64 a0_7]] w fun e w' => e = .returned (.bool r) ∧ Below w.heap.size w w' := by
  have hu55 := Try.underlying55
  have hu24 := Try.underlying24
  have hu40 := Try.underlying40
  have hu31 := Try.underlying31
  have HR0_5 := Aside0.mk hr0_5
  have HC0_5 := Aside0.mk hc0_5
  clear hr0_5 hc0_5
  have HB := Aside0.mk (Below.refl w.heap.size w)
  have H : ((turnstilelaw24_awake.f k).bind fun t631 => (if t631 = true then (if (l0_5.length : Int) = 0 then (turnstilelaw24_AuditSplits.j0 k l0_5 a0_6 a0_7 true a0_0 a0_1 a0_2 a0_3 a0_4) else (turnstilelaw24_AuditSplits.j0 k l0_5 a0_6 a0_7 (decide ((l0_5.length : Int) > 1048576)) a0_0 a0_1 a0_2 a0_3 a0_4)) else (some false))) = some r := h
  clear h
  replace H := Option.bind_eq_some_iff.mp H
  obtain ⟨t631, A20, H⟩ := H
  replace H : (if t631 = true then (if (l0_5.length : Int) = 0 then (turnstilelaw24_AuditSplits.j0 k l0_5 a0_6 a0_7 true a0_0 a0_1 a0_2 a0_3 a0_4) else (turnstilelaw24_AuditSplits.j0 k l0_5 a0_6 a0_7 (decide ((l0_5.length : Int) > 1048576)) a0_0 a0_1 a0_2 a0_3 a0_4)) else (some false)) = some r := H
  have A2 := Aside0.mk A20
  clear A20
  by_cases c3 : t631 = true
  · subst c3
    have H1 : (if (l0_5.length : Int) = 0 then (turnstilelaw24_AuditSplits.j0 k l0_5 a0_6 a0_7 true a0_0 a0_1 a0_2 a0_3 a0_4) else (turnstilelaw24_AuditSplits.j0 k l0_5 a0_6 a0_7 (decide ((l0_5.length : Int) > 1048576)) a0_0 a0_1 a0_2 a0_3 a0_4)) = some r := by rw [if_pos rfl] at H; exact H
    clear H
    have H := H1
    clear H1
    have HC4 := Aside0.mk H
    clear H
    go_enter Try.func5, Try.ntmps5
    go_upto_region 7 with (first | ((with_reducible refine gate_dst (N := 1) rfl ?_); (try (refine gate_guard (by rfl) ?_; dsimp only)); refine bx 1 #[.int .i64 a0_0, .int .u64 a0_1, .int .u64 a0_2, .int .u64 a0_3, .int .u64 a0_4, .slice A0_5 l0_5.length c0_5, .int .i64 a0_6, .int .u64 a0_7] 55 ?_; intro gb630 hg w5 hbox hb; have n0_ := bs HB hb; have n1_ := Aside0.mk (hbox); have n2_ := sz HB hg; have n3_ := sz HB hg; clear HB; have HB := n0_; have BK630 := n1_; have GW630 := n2_; have GE630 := n3_; clear n0_ n1_ n2_ n3_; clear hb hbox hg) | ((with_reducible refine gate_callee (f := 9) rfl ?_); refine gm (some 19) Try.func9 #[] (turnstilelaw24_awake.calls k  true _ A2.out) ?_; intro w6 hb; have n0_ := bb BK630 hb; have n1_ := bs HB hb; clear BK630; clear HB; have BK630 := n0_; have HB := n1_; clear n0_ n1_; (try clear hb); (try clear hb2); (try clear hk); (try clear hi); have hcz7_0 : w6.cell? ⟨gb630, 0, none⟩ = some (.int .i64 a0_0) := (blk_cell BK630.out 0).trans rfl; have hcz7_1 : w6.cell? ⟨gb630, 1, none⟩ = some (.int .u64 a0_1) := (blk_cell BK630.out 1).trans rfl; have hcz7_2 : w6.cell? ⟨gb630, 2, none⟩ = some (.int .u64 a0_2) := (blk_cell BK630.out 2).trans rfl; have hcz7_3 : w6.cell? ⟨gb630, 3, none⟩ = some (.int .u64 a0_3) := (blk_cell BK630.out 3).trans rfl; have hcz7_4 : w6.cell? ⟨gb630, 4, none⟩ = some (.int .u64 a0_4) := (blk_cell BK630.out 4).trans rfl; have hcz7_5 : w6.cell? ⟨gb630, 5, none⟩ = some (.slice A0_5 l0_5.length c0_5) := (blk_cell BK630.out 5).trans rfl; have hcz7_6 : w6.cell? ⟨gb630, 6, none⟩ = some (.int .i64 a0_6) := (blk_cell BK630.out 6).trans rfl; have hcz7_7 : w6.cell? ⟨gb630, 7, none⟩ = some (.int .u64 a0_7) := (blk_cell BK630.out 7).trans rfl; have hfz7_0 := blk_frozen BK630.out 0; have hfz7_1 := blk_frozen BK630.out 1; have hfz7_2 := blk_frozen BK630.out 2; have hfz7_3 := blk_frozen BK630.out 3; have hfz7_4 := blk_frozen BK630.out 4; have hfz7_5 := blk_frozen BK630.out 5; have hfz7_6 := blk_frozen BK630.out 6; have hfz7_7 := blk_frozen BK630.out 7) | ((with_reducible refine gate_dst (N := 3) rfl ?_); (try (refine gate_guard (by rfl) ?_; dsimp only)); refine bx 3 #[.int .i64 0, .int .u64 0, .int .u64 0, .int .u64 0, .int .u64 0] 24 ?_; intro gb632 hg w8 hbox hb; have n0_ := bb BK630 hb; have n1_ := bs HB hb; have n2_ := Aside0.mk (hbox); have n3_ := sz HB hg; have n4_ := sz HB hg; have n5_ := nl BK630 hg; have n6_ := nr BK630 hg; clear BK630; clear HB; have BK630 := n0_; have HB := n1_; have BK632 := n2_; have GW632 := n3_; have GE632 := n4_; have NB630_632 := n5_; have NB632_630 := n6_; clear n0_ n1_ n2_ n3_ n4_ n5_ n6_; clear hb hbox hg; have hnb9 := NB632_630.out; have hnc9 := NB630_632.out; obtain ⟨hcz10_0, hcz10_1, hcz10_2, hcz10_3, hcz10_4, hfz10_0, hfz10_1, hfz10_2, hfz10_3, hfz10_4⟩ := bc5 BK632; have hcz11_0 : w8.cell? ⟨gb630, 0, none⟩ = some (.int .i64 a0_0) := (blk_cell BK630.out 0).trans rfl; have hcz11_1 : w8.cell? ⟨gb630, 1, none⟩ = some (.int .u64 a0_1) := (blk_cell BK630.out 1).trans rfl; have hcz11_2 : w8.cell? ⟨gb630, 2, none⟩ = some (.int .u64 a0_2) := (blk_cell BK630.out 2).trans rfl; have hcz11_3 : w8.cell? ⟨gb630, 3, none⟩ = some (.int .u64 a0_3) := (blk_cell BK630.out 3).trans rfl; have hcz11_4 : w8.cell? ⟨gb630, 4, none⟩ = some (.int .u64 a0_4) := (blk_cell BK630.out 4).trans rfl; have hcz11_5 : w8.cell? ⟨gb630, 5, none⟩ = some (.slice A0_5 l0_5.length c0_5) := (blk_cell BK630.out 5).trans rfl; have hcz11_6 : w8.cell? ⟨gb630, 6, none⟩ = some (.int .i64 a0_6) := (blk_cell BK630.out 6).trans rfl; have hcz11_7 : w8.cell? ⟨gb630, 7, none⟩ = some (.int .u64 a0_7) := (blk_cell BK630.out 7).trans rfl; have hfz11_0 := blk_frozen BK630.out 0; have hfz11_1 := blk_frozen BK630.out 1; have hfz11_2 := blk_frozen BK630.out 2; have hfz11_3 := blk_frozen BK630.out 3; have hfz11_4 := blk_frozen BK630.out 4; have hfz11_5 := blk_frozen BK630.out 5; have hfz11_6 := blk_frozen BK630.out 6; have hfz11_7 := blk_frozen BK630.out 7))
    (try simp only [Act.put, List.setIfInBounds_toArray, List.set_cons_zero, List.set_cons_succ])
    go_cut [36] (fun v36 wc => ∃ (kq : Nat) (x36_3 : Bool), v36 = .bool x36_3 ∧ Aside0 (turnstilelaw24_AuditSplits.j0 kq l0_5 a0_6 a0_7 x36_3 a0_0 a0_1 a0_2 a0_3 a0_4 = some r) ∧ Aside0 (kq ≤ k) ∧ Aside0 (wc.heap[gb630]? = some (.cells #[.int .i64 a0_0, .int .u64 a0_1, .int .u64 a0_2, .int .u64 a0_3, .int .u64 a0_4, (.slice A0_5 l0_5.length c0_5), .int .i64 a0_6, .int .u64 a0_7] 55 (0, 0))) ∧ Aside0 (wc.heap[gb632]? = some (.cells #[.int .i64 a0_0, .int .u64 a0_1, .int .u64 a0_2, .int .u64 a0_3, .int .u64 a0_4] 24 (0, 0))) ∧ Aside0 (Below w.heap.size w wc))
    case first =>
      have H := HC4.out
      clear HC4
      by_cases c12 : (l0_5.length : Int) = 0
      · rw [if_pos c12] at H
        have c12b0 : ((l0_5.length : Int) == 0) = true := beq_iff_eq.mpr c12
        have c12b1 : ((l0_5.length : Int) != 0) = false := bne_eq_false_iff_eq.mpr c12
        clear c12
        (first | rw [c12b0] | (simp only [i64_w, i32_w]; rw [c12b0]) | skip)
        have H' := Aside0.mk H
        clear H
        go_wp2
        go_meet
        case rel => exact ⟨_, (true), rs, H', ⟨by first | omega | exact Nat.le_refl _⟩, ⟨bk BK630⟩, ⟨bk BK632⟩, ⟨bw HB⟩⟩
      · rw [if_neg c12] at H
        have c12b0 : ((l0_5.length : Int) == 0) = false := beq_eq_false_iff_ne.mpr c12
        have c12b1 : ((l0_5.length : Int) != 0) = true := bne_iff_ne.mpr c12
        have c12b2 : ¬ (l0_5 = []) := fun h_ => c12 (by rw [h_]; rfl)
        (first | rw [c12b0] | (simp only [i64_w, i32_w]; rw [c12b0]) | skip)
        have H' := Aside0.mk H
        clear H
        go_wp2
        go_meet
        case rel => exact ⟨_, (decide ((l0_5.length : Int) > 1048576)), rs, H', ⟨by first | omega | exact Nat.le_refl _⟩, ⟨bk BK630⟩, ⟨bk BK632⟩, ⟨bw HB⟩⟩
    case rest => as_aux_lemma =>
      clear HC4
      try clear c1
      try clear p2
      try clear c3
      try clear c5
      try clear c9
      try clear c12
      try clear c12b0
      try clear c12b1
      try clear c12b2
      try clear hcz10_0
      try clear hcz10_1
      try clear hcz10_2
      try clear hcz10_3
      try clear hcz10_4
      try clear hcz11_0
      try clear hcz11_1
      try clear hcz11_2
      try clear hcz11_3
      try clear hcz11_4
      try clear hcz11_5
      try clear hcz11_6
      try clear hcz11_7
      try clear hcz7_0
      try clear hcz7_1
      try clear hcz7_2
      try clear hcz7_3
      try clear hcz7_4
      try clear hcz7_5
      try clear hcz7_6
      try clear hcz7_7
      try clear hfz10_0
      try clear hfz10_1
      try clear hfz10_2
      try clear hfz10_3
      try clear hfz10_4
      try clear hfz11_0
      try clear hfz11_1
      try clear hfz11_2
      try clear hfz11_3
      try clear hfz11_4
      try clear hfz11_5
      try clear hfz11_6
      try clear hfz11_7
      try clear hfz7_0
      try clear hfz7_1
      try clear hfz7_2
      try clear hfz7_3
      try clear hfz7_4
      try clear hfz7_5
      try clear hfz7_6
      try clear hfz7_7
      obtain ⟨kq, x36_3, rfl, HA, HJ3, BK630, BK632, HB⟩ := hcut
      cases kq with
      | zero => exact absurd HA.out (by simp [turnstilelaw24_AuditSplits.j0])
      | succ kj3 =>
        have H := HA.out
        clear HA
        simp only [turnstilelaw24_AuditSplits.j0] at H
        by_cases c13 : x36_3 = true
        · subst c13
          have H1 : (some true) = some r := by rw [if_pos rfl] at H; exact H
          clear H
          have H := H1
          clear H1
          obtain rfl := Option.some.inj H
          go_wp2
          go_ret
          exact ⟨re, bw HB⟩
        · replace c13 := Bool.eq_false_iff.mpr c13
          subst c13
          have H1 : (if (IntKind.u64.wrap ((l0_5.length : Int))) = 0 then (none) else ((audit_Conforms.f kj3 a0_0 a0_1 a0_2 a0_3 a0_4 l0_5).bind fun t633 => ((audit_Level.f kj3 a0_0 a0_1 a0_2 a0_3 a0_4 l0_5).bind fun bt634 => (if 0 ≤ (wrap64 (Int.tmod (IntKind.u64.wrap (a0_6)) (IntKind.u64.wrap ((l0_5.length : Int))))) then (if (wrap64 (Int.tmod (IntKind.u64.wrap (a0_6)) (IntKind.u64.wrap ((l0_5.length : Int))))) < (l0_5.length : Int) then (if ((rd_T31 l0_5 (wrap64 (Int.tmod (IntKind.u64.wrap (a0_6)) (IntKind.u64.wrap ((l0_5.length : Int)))))).f1) > 1 then (if (IntKind.u64.wrap (((rd_T31 l0_5 (wrap64 (Int.tmod (IntKind.u64.wrap (a0_6)) (IntKind.u64.wrap ((l0_5.length : Int)))))).f1) - 1)) = 0 then (none) else (if (wrap64 (Int.tmod (IntKind.u64.wrap (a0_6)) (IntKind.u64.wrap ((l0_5.length : Int))))) ≤ (l0_5.length : Int) then ((some (l0_5.take ((wrap64 (Int.tmod (IntKind.u64.wrap (a0_6)) (IntKind.u64.wrap ((l0_5.length : Int))))) : Int).toNat : List (S31))).bind fun y641 => (if ([] : List (S31)).length + y641.length < 8796093022208 then ((some (([] : List (S31)) ++ y641 : List (S31))).bind fun y645 => (if y645.length < 8796093022208 then ((some (y645 ++ [(⟨(rd_T31 l0_5 (wrap64 (Int.tmod (IntKind.u64.wrap (a0_6)) (IntKind.u64.wrap ((l0_5.length : Int)))))).f0, IntKind.u64.wrap (1 + (Int.tmod a0_7 (IntKind.u64.wrap (((rd_T31 l0_5 (wrap64 (Int.tmod (IntKind.u64.wrap (a0_6)) (IntKind.u64.wrap ((l0_5.length : Int)))))).f1) - 1))))⟩ : S31)] : List (S31))).bind fun y649 => (if y649.length < 8796093022208 then ((some (y649 ++ [(⟨(rd_T31 l0_5 (wrap64 (Int.tmod (IntKind.u64.wrap (a0_6)) (IntKind.u64.wrap ((l0_5.length : Int)))))).f0, IntKind.u64.wrap (((rd_T31 l0_5 (wrap64 (Int.tmod (IntKind.u64.wrap (a0_6)) (IntKind.u64.wrap ((l0_5.length : Int)))))).f1) - (IntKind.u64.wrap (1 + (Int.tmod a0_7 (IntKind.u64.wrap (((rd_T31 l0_5 (wrap64 (Int.tmod (IntKind.u64.wrap (a0_6)) (IntKind.u64.wrap ((l0_5.length : Int)))))).f1) - 1))))))⟩ : S31)] : List (S31))).bind fun y654 => (if 0 ≤ (wrap64 ((wrap64 (Int.tmod (IntKind.u64.wrap (a0_6)) (IntKind.u64.wrap ((l0_5.length : Int))))) + 1)) then (if (wrap64 ((wrap64 (Int.tmod (IntKind.u64.wrap (a0_6)) (IntKind.u64.wrap ((l0_5.length : Int))))) + 1)) ≤ (l0_5.length : Int) then ((some (l0_5.drop ((wrap64 ((wrap64 (Int.tmod (IntKind.u64.wrap (a0_6)) (IntKind.u64.wrap ((l0_5.length : Int))))) + 1)) : Int).toNat : List (S31))).bind fun y657 => (if y654.length + y657.length < 8796093022208 then ((some (y654 ++ y657 : List (S31))).bind fun y661 => ((audit_Level.f kj3 a0_0 a0_1 a0_2 a0_3 a0_4 y661).bind fun bt664 => ((audit_Conforms.f kj3 a0_0 a0_1 a0_2 a0_3 a0_4 y661).bind fun t669 => (if (t669 != t633) = true then (some false) else (if (!(bt664.1 == bt634.1) || (!(bt664.2.1 == bt634.2.1) || (!(bt664.2.2.1 == bt634.2.2.1)))) = true then (some false) else (if (bt664.2.2.2 != bt634.2.2.2) = true then (some false) else (turnstilelaw24_AuditSplits.j1 kj3 l0_5 t633 bt634.2.2.2 a0_0 a0_1 a0_2 a0_3 a0_4 bt634.1 bt634.2.1 bt634.2.2.1))))))) else (none))) else (none)) else (none))) else (none))) else (none))) else (none))) else (none))) else (turnstilelaw24_AuditSplits.j1 kj3 l0_5 t633 bt634.2.2.2 a0_0 a0_1 a0_2 a0_3 a0_4 bt634.1 bt634.2.1 bt634.2.2.1)) else (none)) else (none))))) = some r := by rw [if_neg (show ¬ (false = true) by decide)] at H; exact H
          clear H
          have H := H1
          clear H1
          by_cases c14 : (IntKind.u64.wrap ((l0_5.length : Int))) = 0
          · rw [if_pos c14] at H
            exact absurd H (by simp)
          · rw [if_neg c14] at H
            have c14b0 : ((IntKind.u64.wrap ((l0_5.length : Int))) == 0) = false := beq_eq_false_iff_ne.mpr c14
            have c14b1 : ((IntKind.u64.wrap ((l0_5.length : Int))) != 0) = true := bne_iff_ne.mpr c14
            replace H := Option.bind_eq_some_iff.mp H
            obtain ⟨t633, A150, H⟩ := H
            replace H : ((audit_Level.f kj3 a0_0 a0_1 a0_2 a0_3 a0_4 l0_5).bind fun bt634 => (if 0 ≤ (wrap64 (Int.tmod (IntKind.u64.wrap (a0_6)) (IntKind.u64.wrap ((l0_5.length : Int))))) then (if (wrap64 (Int.tmod (IntKind.u64.wrap (a0_6)) (IntKind.u64.wrap ((l0_5.length : Int))))) < (l0_5.length : Int) then (if ((rd_T31 l0_5 (wrap64 (Int.tmod (IntKind.u64.wrap (a0_6)) (IntKind.u64.wrap ((l0_5.length : Int)))))).f1) > 1 then (if (IntKind.u64.wrap (((rd_T31 l0_5 (wrap64 (Int.tmod (IntKind.u64.wrap (a0_6)) (IntKind.u64.wrap ((l0_5.length : Int)))))).f1) - 1)) = 0 then (none) else (if (wrap64 (Int.tmod (IntKind.u64.wrap (a0_6)) (IntKind.u64.wrap ((l0_5.length : Int))))) ≤ (l0_5.length : Int) then ((some (l0_5.take ((wrap64 (Int.tmod (IntKind.u64.wrap (a0_6)) (IntKind.u64.wrap ((l0_5.length : Int))))) : Int).toNat : List (S31))).bind fun y641 => (if ([] : List (S31)).length + y641.length < 8796093022208 then ((some (([] : List (S31)) ++ y641 : List (S31))).bind fun y645 => (if y645.length < 8796093022208 then ((some (y645 ++ [(⟨(rd_T31 l0_5 (wrap64 (Int.tmod (IntKind.u64.wrap (a0_6)) (IntKind.u64.wrap ((l0_5.length : Int)))))).f0, IntKind.u64.wrap (1 + (Int.tmod a0_7 (IntKind.u64.wrap (((rd_T31 l0_5 (wrap64 (Int.tmod (IntKind.u64.wrap (a0_6)) (IntKind.u64.wrap ((l0_5.length : Int)))))).f1) - 1))))⟩ : S31)] : List (S31))).bind fun y649 => (if y649.length < 8796093022208 then ((some (y649 ++ [(⟨(rd_T31 l0_5 (wrap64 (Int.tmod (IntKind.u64.wrap (a0_6)) (IntKind.u64.wrap ((l0_5.length : Int)))))).f0, IntKind.u64.wrap (((rd_T31 l0_5 (wrap64 (Int.tmod (IntKind.u64.wrap (a0_6)) (IntKind.u64.wrap ((l0_5.length : Int)))))).f1) - (IntKind.u64.wrap (1 + (Int.tmod a0_7 (IntKind.u64.wrap (((rd_T31 l0_5 (wrap64 (Int.tmod (IntKind.u64.wrap (a0_6)) (IntKind.u64.wrap ((l0_5.length : Int)))))).f1) - 1))))))⟩ : S31)] : List (S31))).bind fun y654 => (if 0 ≤ (wrap64 ((wrap64 (Int.tmod (IntKind.u64.wrap (a0_6)) (IntKind.u64.wrap ((l0_5.length : Int))))) + 1)) then (if (wrap64 ((wrap64 (Int.tmod (IntKind.u64.wrap (a0_6)) (IntKind.u64.wrap ((l0_5.length : Int))))) + 1)) ≤ (l0_5.length : Int) then ((some (l0_5.drop ((wrap64 ((wrap64 (Int.tmod (IntKind.u64.wrap (a0_6)) (IntKind.u64.wrap ((l0_5.length : Int))))) + 1)) : Int).toNat : List (S31))).bind fun y657 => (if y654.length + y657.length < 8796093022208 then ((some (y654 ++ y657 : List (S31))).bind fun y661 => ((audit_Level.f kj3 a0_0 a0_1 a0_2 a0_3 a0_4 y661).bind fun bt664 => ((audit_Conforms.f kj3 a0_0 a0_1 a0_2 a0_3 a0_4 y661).bind fun t669 => (if (t669 != t633) = true then (some false) else (if (!(bt664.1 == bt634.1) || (!(bt664.2.1 == bt634.2.1) || (!(bt664.2.2.1 == bt634.2.2.1)))) = true then (some false) else (if (bt664.2.2.2 != bt634.2.2.2) = true then (some false) else (turnstilelaw24_AuditSplits.j1 kj3 l0_5 t633 bt634.2.2.2 a0_0 a0_1 a0_2 a0_3 a0_4 bt634.1 bt634.2.1 bt634.2.2.1))))))) else (none))) else (none)) else (none))) else (none))) else (none))) else (none))) else (none))) else (turnstilelaw24_AuditSplits.j1 kj3 l0_5 t633 bt634.2.2.2 a0_0 a0_1 a0_2 a0_3 a0_4 bt634.1 bt634.2.1 bt634.2.2.1)) else (none)) else (none))) = some r := H
            have A15 := Aside0.mk A150
            clear A150
            replace H := Option.bind_eq_some_iff.mp H
            obtain ⟨⟨t634, t635, t636, t637⟩, A160, H⟩ := H
            replace H : (if 0 ≤ (wrap64 (Int.tmod (IntKind.u64.wrap (a0_6)) (IntKind.u64.wrap ((l0_5.length : Int))))) then (if (wrap64 (Int.tmod (IntKind.u64.wrap (a0_6)) (IntKind.u64.wrap ((l0_5.length : Int))))) < (l0_5.length : Int) then (if ((rd_T31 l0_5 (wrap64 (Int.tmod (IntKind.u64.wrap (a0_6)) (IntKind.u64.wrap ((l0_5.length : Int)))))).f1) > 1 then (if (IntKind.u64.wrap (((rd_T31 l0_5 (wrap64 (Int.tmod (IntKind.u64.wrap (a0_6)) (IntKind.u64.wrap ((l0_5.length : Int)))))).f1) - 1)) = 0 then (none) else (if (wrap64 (Int.tmod (IntKind.u64.wrap (a0_6)) (IntKind.u64.wrap ((l0_5.length : Int))))) ≤ (l0_5.length : Int) then ((some (l0_5.take ((wrap64 (Int.tmod (IntKind.u64.wrap (a0_6)) (IntKind.u64.wrap ((l0_5.length : Int))))) : Int).toNat : List (S31))).bind fun y641 => (if ([] : List (S31)).length + y641.length < 8796093022208 then ((some (([] : List (S31)) ++ y641 : List (S31))).bind fun y645 => (if y645.length < 8796093022208 then ((some (y645 ++ [(⟨(rd_T31 l0_5 (wrap64 (Int.tmod (IntKind.u64.wrap (a0_6)) (IntKind.u64.wrap ((l0_5.length : Int)))))).f0, IntKind.u64.wrap (1 + (Int.tmod a0_7 (IntKind.u64.wrap (((rd_T31 l0_5 (wrap64 (Int.tmod (IntKind.u64.wrap (a0_6)) (IntKind.u64.wrap ((l0_5.length : Int)))))).f1) - 1))))⟩ : S31)] : List (S31))).bind fun y649 => (if y649.length < 8796093022208 then ((some (y649 ++ [(⟨(rd_T31 l0_5 (wrap64 (Int.tmod (IntKind.u64.wrap (a0_6)) (IntKind.u64.wrap ((l0_5.length : Int)))))).f0, IntKind.u64.wrap (((rd_T31 l0_5 (wrap64 (Int.tmod (IntKind.u64.wrap (a0_6)) (IntKind.u64.wrap ((l0_5.length : Int)))))).f1) - (IntKind.u64.wrap (1 + (Int.tmod a0_7 (IntKind.u64.wrap (((rd_T31 l0_5 (wrap64 (Int.tmod (IntKind.u64.wrap (a0_6)) (IntKind.u64.wrap ((l0_5.length : Int)))))).f1) - 1))))))⟩ : S31)] : List (S31))).bind fun y654 => (if 0 ≤ (wrap64 ((wrap64 (Int.tmod (IntKind.u64.wrap (a0_6)) (IntKind.u64.wrap ((l0_5.length : Int))))) + 1)) then (if (wrap64 ((wrap64 (Int.tmod (IntKind.u64.wrap (a0_6)) (IntKind.u64.wrap ((l0_5.length : Int))))) + 1)) ≤ (l0_5.length : Int) then ((some (l0_5.drop ((wrap64 ((wrap64 (Int.tmod (IntKind.u64.wrap (a0_6)) (IntKind.u64.wrap ((l0_5.length : Int))))) + 1)) : Int).toNat : List (S31))).bind fun y657 => (if y654.length + y657.length < 8796093022208 then ((some (y654 ++ y657 : List (S31))).bind fun y661 => ((audit_Level.f kj3 a0_0 a0_1 a0_2 a0_3 a0_4 y661).bind fun bt664 => ((audit_Conforms.f kj3 a0_0 a0_1 a0_2 a0_3 a0_4 y661).bind fun t669 => (if (t669 != t633) = true then (some false) else (if (!(bt664.1 == t634) || (!(bt664.2.1 == t635) || (!(bt664.2.2.1 == t636)))) = true then (some false) else (if (bt664.2.2.2 != t637) = true then (some false) else (turnstilelaw24_AuditSplits.j1 kj3 l0_5 t633 t637 a0_0 a0_1 a0_2 a0_3 a0_4 t634 t635 t636))))))) else (none))) else (none)) else (none))) else (none))) else (none))) else (none))) else (none))) else (turnstilelaw24_AuditSplits.j1 kj3 l0_5 t633 t637 a0_0 a0_1 a0_2 a0_3 a0_4 t634 t635 t636)) else (none)) else (none)) = some r := H
            have A16 := Aside0.mk A160
            clear A160
            obtain ⟨ji17, hji17⟩ : ∃ j_ : Int, (wrap64 (Int.tmod (IntKind.u64.wrap (a0_6)) (IntKind.u64.wrap ((l0_5.length : Int))))) = j_ := ⟨_, rfl⟩
            replace H : (if 0 ≤ (ji17) then (if (ji17) < (l0_5.length : Int) then (if ((rd_T31 l0_5 (ji17)).f1) > 1 then (if (IntKind.u64.wrap (((rd_T31 l0_5 (ji17)).f1) - 1)) = 0 then (none) else (if (ji17) ≤ (l0_5.length : Int) then ((some (l0_5.take ((ji17) : Int).toNat : List (S31))).bind fun y641 => (if ([] : List (S31)).length + y641.length < 8796093022208 then ((some (([] : List (S31)) ++ y641 : List (S31))).bind fun y645 => (if y645.length < 8796093022208 then ((some (y645 ++ [(⟨(rd_T31 l0_5 (ji17)).f0, IntKind.u64.wrap (1 + (Int.tmod a0_7 (IntKind.u64.wrap (((rd_T31 l0_5 (ji17)).f1) - 1))))⟩ : S31)] : List (S31))).bind fun y649 => (if y649.length < 8796093022208 then ((some (y649 ++ [(⟨(rd_T31 l0_5 (ji17)).f0, IntKind.u64.wrap (((rd_T31 l0_5 (ji17)).f1) - (IntKind.u64.wrap (1 + (Int.tmod a0_7 (IntKind.u64.wrap (((rd_T31 l0_5 (ji17)).f1) - 1))))))⟩ : S31)] : List (S31))).bind fun y654 => (if 0 ≤ (wrap64 ((ji17) + 1)) then (if (wrap64 ((ji17) + 1)) ≤ (l0_5.length : Int) then ((some (l0_5.drop ((wrap64 ((ji17) + 1)) : Int).toNat : List (S31))).bind fun y657 => (if y654.length + y657.length < 8796093022208 then ((some (y654 ++ y657 : List (S31))).bind fun y661 => ((audit_Level.f kj3 a0_0 a0_1 a0_2 a0_3 a0_4 y661).bind fun bt664 => ((audit_Conforms.f kj3 a0_0 a0_1 a0_2 a0_3 a0_4 y661).bind fun t669 => (if (t669 != t633) = true then (some false) else (if (!(bt664.1 == t634) || (!(bt664.2.1 == t635) || (!(bt664.2.2.1 == t636)))) = true then (some false) else (if (bt664.2.2.2 != t637) = true then (some false) else (turnstilelaw24_AuditSplits.j1 kj3 l0_5 t633 t637 a0_0 a0_1 a0_2 a0_3 a0_4 t634 t635 t636))))))) else (none))) else (none)) else (none))) else (none))) else (none))) else (none))) else (none))) else (turnstilelaw24_AuditSplits.j1 kj3 l0_5 t633 t637 a0_0 a0_1 a0_2 a0_3 a0_4 t634 t635 t636)) else (none)) else (none)) = some r := by first | (rw [hji17] at H; exact H) | (simp only [hji17] at H ⊢; exact H)
            (try rw [hji17] at A15)
            (try rw [hji17] at A16)
            have hji17w : (IntKind.i64.wrap (Int.tmod (IntKind.u64.wrap (a0_6)) (IntKind.u64.wrap ((l0_5.length : Int))))) = ji17 := (i64_w _).trans hji17
            by_cases c18 : 0 ≤ (ji17)
            · rw [if_pos c18] at H
              have c18b0 : decide (0 ≤ (ji17)) = true := decide_eq_true c18
              clear c18
              by_cases c19 : (ji17) < (l0_5.length : Int)
              · rw [if_pos c19] at H
                have c19b0 : decide ((ji17) < (l0_5.length : Int)) = true := decide_eq_true c19
                clear c19
                have HC20 := Aside0.mk H
                clear H
                have hnb21 := NB632_630.out
                have hnc21 := NB630_632.out
                obtain ⟨hcz22_0, hcz22_1, hcz22_2, hcz22_3, hcz22_4, hfz22_0, hfz22_1, hfz22_2, hfz22_3, hfz22_4⟩ := bc5 BK632
                go_upto_if 58 with (first | ((with_reducible refine gate_callee (f := 12) rfl ?_); refine gl (some 46) Try.func12 #[.agg #[.int .i64 a0_0, .int .u64 a0_1, .int .u64 a0_2, .int .u64 a0_3, .int .u64 a0_4], .slice A0_5 l0_5.length c0_5] ?_; (with_reducible refine (audit_Conforms.calls kj3 a0_0 a0_1 a0_2 a0_3 a0_4 _ _ l0_5 t633 _ ?side1 ?side2 A15.out).mono ?_); (case side1 => repeat (first | exact (Kd.C_below HR0_5.out HB.out) | (with_reducible refine Kd.C_alloc ?_ _) | (with_reducible refine Kd.C_drewN ?_ _) | (with_reducible refine Kd.C_drew ?_))); (case side2 => exact HC0_5.out); rintro e w23 ⟨rfl, hb⟩; refine ⟨_, rfl, ?_⟩; have n0_ := bb BK630 hb; have n1_ := bb BK632 hb; have n2_ := bs HB hb; clear BK630; clear BK632; clear HB; have BK630 := n0_; have BK632 := n1_; have HB := n2_; clear n0_ n1_ n2_; (try clear hb); (try clear hb2); (try clear hk); (try clear hi); obtain ⟨hcz24_0, hcz24_1, hcz24_2, hcz24_3, hcz24_4, hfz24_0, hfz24_1, hfz24_2, hfz24_3, hfz24_4⟩ := bc5 BK632) | ((with_reducible refine gate_callee (f := 17) rfl ?_); refine gl (some 50) Try.func17 #[.agg #[.int .i64 a0_0, .int .u64 a0_1, .int .u64 a0_2, .int .u64 a0_3, .int .u64 a0_4], .slice A0_5 l0_5.length c0_5] ?_; (with_reducible refine (audit_Level.calls kj3 a0_0 a0_1 a0_2 a0_3 a0_4 _ _ l0_5 t634 t635 t636 t637 _ ?side1 ?side2 A16.out).mono ?_); (case side1 => repeat (first | exact (Kd.C_below HR0_5.out HB.out) | (with_reducible refine Kd.C_alloc ?_ _) | (with_reducible refine Kd.C_drewN ?_ _) | (with_reducible refine Kd.C_drew ?_))); (case side2 => exact HC0_5.out); rintro e w25 ⟨rfl, hb⟩; refine ⟨_, rfl, ?_⟩; have n0_ := bb BK630 hb; have n1_ := bb BK632 hb; have n2_ := bs HB hb; clear BK630; clear BK632; clear HB; have BK630 := n0_; have BK632 := n1_; have HB := n2_; clear n0_ n1_ n2_; (try clear hb); (try clear hb2); (try clear hk); (try clear hi)) | ((with_reducible refine gate_dst (N := 9) rfl ?_); (try (refine gate_guard (by rfl) ?_; dsimp only)); refine bx 9 #[.int .u64 0, .int .u64 0, .int .u64 0] 40 ?_; intro gb638 hg w26 hbox hb; have n0_ := bb BK630 hb; have n1_ := bb BK632 hb; have n2_ := bs HB hb; have n3_ := Aside0.mk (hbox); have n4_ := sz HB hg; have n5_ := sz HB hg; have n6_ := nl BK630 hg; have n7_ := nr BK630 hg; have n8_ := nl BK632 hg; have n9_ := nr BK632 hg; clear BK630; clear BK632; clear HB; have BK630 := n0_; have BK632 := n1_; have HB := n2_; have BK638 := n3_; have GW638 := n4_; have GE638 := n5_; have NB630_638 := n6_; have NB638_630 := n7_; have NB632_638 := n8_; have NB638_632 := n9_; clear n0_ n1_ n2_ n3_ n4_ n5_ n6_ n7_ n8_ n9_; clear hb hbox hg; have hnb27 := NB638_630.out; have hnc27 := NB630_638.out; have hnb28 := NB638_632.out; have hnc28 := NB632_638.out; obtain ⟨hcz29_0, hcz29_1, hcz29_2, hfz29_0, hfz29_1, hfz29_2⟩ := bc3 BK638; have p639 : 0 ≤ ((ji17) : Int) := of_decide_eq_true (by first | (with_reducible assumption) | assumption); have q639 : (ji17) < (l0_5.length : Int) := of_decide_eq_true (by first | (with_reducible assumption) | assumption); obtain ⟨ad639, e639, hx639_0, hx639_1⟩ := at_T31 HR0_5.out (ji17) p639 q639; cases e639; have hn639_0 : ad639.block ≠ gb638 := Nat.ne_of_lt (Nat.lt_of_lt_of_le (by have := World.block_lt_of_cell? _ _ hx639_0; first | rwa [add_block] at this | exact this) GW638.out); have hn639_1 : ad639.block ≠ gb638 := Nat.ne_of_lt (Nat.lt_of_lt_of_le (by have := World.block_lt_of_cell? _ _ hx639_0; first | rwa [add_block] at this | exact this) GW638.out); have hn639_2 : ad639.block ≠ gb638 := Nat.ne_of_lt (Nat.lt_of_lt_of_le (by have := World.block_lt_of_cell? _ _ hx639_0; first | rwa [add_block] at this | exact this) GW638.out); replace hx639_0 := (HB.out.cell (World.block_lt_of_cell? w _ hx639_0)).trans hx639_0; replace hx639_1 := (HB.out.cell (World.block_lt_of_cell? w _ hx639_1)).trans hx639_1; replace hx639_0 := (cell_far (p := ⟨gb638, 0, none⟩) (by first | (rw [add_block]; exact hn639_0) | (show (Addr.add _ _).block ≠ _; rw [add_block]; exact hn639_0) | exact hn639_0) (.int .u64 t634)).trans hx639_0; replace hx639_1 := (cell_far (p := ⟨gb638, 0, none⟩) (by first | (rw [add_block]; exact hn639_0) | (show (Addr.add _ _).block ≠ _; rw [add_block]; exact hn639_0) | exact hn639_0) (.int .u64 t634)).trans hx639_1; replace hx639_0 := (cell_far (p := ⟨gb638, 1, none⟩) (by first | (rw [add_block]; exact hn639_1) | (show (Addr.add _ _).block ≠ _; rw [add_block]; exact hn639_1) | exact hn639_1) (.int .u64 t635)).trans hx639_0; replace hx639_1 := (cell_far (p := ⟨gb638, 1, none⟩) (by first | (rw [add_block]; exact hn639_1) | (show (Addr.add _ _).block ≠ _; rw [add_block]; exact hn639_1) | exact hn639_1) (.int .u64 t635)).trans hx639_1; replace hx639_0 := (cell_far (p := ⟨gb638, 2, none⟩) (by first | (rw [add_block]; exact hn639_2) | (show (Addr.add _ _).block ≠ _; rw [add_block]; exact hn639_2) | exact hn639_2) (.int .u64 t636)).trans hx639_0; replace hx639_1 := (cell_far (p := ⟨gb638, 2, none⟩) (by first | (rw [add_block]; exact hn639_2) | (show (Addr.add _ _).block ≠ _; rw [add_block]; exact hn639_2) | exact hn639_2) (.int .u64 t636)).trans hx639_1; clear hn639_0; clear hn639_1; clear hn639_2; replace p639 := eq_true p639; replace q639 := eq_true q639))
                (try simp only [Act.put, List.setIfInBounds_toArray, List.set_cons_zero, List.set_cons_succ])
                go_cut [] (fun wc => ∃ (kq : Nat), Aside0 (turnstilelaw24_AuditSplits.j1 kq l0_5 t633 t637 a0_0 a0_1 a0_2 a0_3 a0_4 t634 t635 t636 = some r) ∧ Aside0 (kq ≤ kj3) ∧ Aside0 (wc.heap[gb630]? = some (.cells #[.int .i64 a0_0, .int .u64 a0_1, .int .u64 a0_2, .int .u64 a0_3, .int .u64 a0_4, (.slice (some ad639) l0_5.length c0_5), .int .i64 a0_6, .int .u64 a0_7] 55 (0, 0))) ∧ Aside0 (wc.heap[gb632]? = some (.cells #[.int .i64 a0_0, .int .u64 a0_1, .int .u64 a0_2, .int .u64 a0_3, .int .u64 a0_4] 24 (0, 0))) ∧ Aside0 (wc.heap[gb638]? = some (.cells #[.int .u64 t634, .int .u64 t635, .int .u64 t636] 40 (0, 0))) ∧ Aside0 (Below w.heap.size w wc))
                case first =>
                  have H := HC20.out
                  clear HC20
                  by_cases c30 : ((rd_T31 l0_5 (ji17)).f1) > 1
                  · rw [if_pos c30] at H
                    have c30b0 : decide (1 < ((rd_T31 l0_5 (ji17)).f1)) = true := decide_eq_true c30
                    clear c30
                    (first | rw [c30b0] | (simp only [i64_w, i32_w]; rw [c30b0]) | skip)
                    by_cases c31 : (IntKind.u64.wrap (((rd_T31 l0_5 (ji17)).f1) - 1)) = 0
                    · rw [if_pos c31] at H
                      exact absurd H (by simp)
                    · rw [if_neg c31] at H
                      have c31b0 : ((IntKind.u64.wrap (((rd_T31 l0_5 (ji17)).f1) - 1)) == 0) = false := beq_eq_false_iff_ne.mpr c31
                      have c31b1 : ((IntKind.u64.wrap (((rd_T31 l0_5 (ji17)).f1) - 1)) != 0) = true := bne_iff_ne.mpr c31
                      have c32b0 := eq_true (of_decide_eq_true (by first | (with_reducible assumption) | assumption) : 0 ≤ (ji17))
                      by_cases c33 : (ji17) ≤ (l0_5.length : Int)
                      · rw [if_pos c33] at H
                        have c33b0 := eq_true c33
                        have c33b1 : decide ((ji17) ≤ (l0_5.length : Int)) = true := decide_eq_true c33
                        clear c33
                        obtain ⟨y641, hy641⟩ : ∃ y_ : List (S31), y_ = (l0_5.take ((ji17) : Int).toNat) := ⟨_, rfl⟩
                        replace H : (if ([] : List (S31)).length + y641.length < 8796093022208 then ((some (([] : List (S31)) ++ y641 : List (S31))).bind fun y645 => (if y645.length < 8796093022208 then ((some (y645 ++ [(⟨(rd_T31 l0_5 (ji17)).f0, IntKind.u64.wrap (1 + (Int.tmod a0_7 (IntKind.u64.wrap (((rd_T31 l0_5 (ji17)).f1) - 1))))⟩ : S31)] : List (S31))).bind fun y649 => (if y649.length < 8796093022208 then ((some (y649 ++ [(⟨(rd_T31 l0_5 (ji17)).f0, IntKind.u64.wrap (((rd_T31 l0_5 (ji17)).f1) - (IntKind.u64.wrap (1 + (Int.tmod a0_7 (IntKind.u64.wrap (((rd_T31 l0_5 (ji17)).f1) - 1))))))⟩ : S31)] : List (S31))).bind fun y654 => (if 0 ≤ (wrap64 ((ji17) + 1)) then (if (wrap64 ((ji17) + 1)) ≤ (l0_5.length : Int) then ((some (l0_5.drop ((wrap64 ((ji17) + 1)) : Int).toNat : List (S31))).bind fun y657 => (if y654.length + y657.length < 8796093022208 then ((some (y654 ++ y657 : List (S31))).bind fun y661 => ((audit_Level.f kj3 a0_0 a0_1 a0_2 a0_3 a0_4 y661).bind fun bt664 => ((audit_Conforms.f kj3 a0_0 a0_1 a0_2 a0_3 a0_4 y661).bind fun t669 => (if (t669 != t633) = true then (some false) else (if (!(bt664.1 == t634) || (!(bt664.2.1 == t635) || (!(bt664.2.2.1 == t636)))) = true then (some false) else (if (bt664.2.2.2 != t637) = true then (some false) else (turnstilelaw24_AuditSplits.j1 kj3 l0_5 t633 t637 a0_0 a0_1 a0_2 a0_3 a0_4 t634 t635 t636))))))) else (none))) else (none)) else (none))) else (none))) else (none))) else (none)) = some r := by first | (rw [hy641]; with_reducible exact H) | (have H2_ := (Option.bind_some _ _).symm.trans H; rw [hy641]; with_reducible exact H2_) | (have H2_ := (Option.bind_some _ _).symm.trans H; with_reducible exact H2_) | with_reducible exact H | (rw [hy641]; exact H) | exact H
                        have Ny641 := Aside0.mk hy641
                        clear hy641
                        by_cases c34 : ([] : List (S31)).length + y641.length < 8796093022208
                        · rw [if_pos c34] at H
                          have LMc34 := Aside0.mk c34
                          clear c34
                          obtain ⟨y645, hy645⟩ : ∃ y_ : List (S31), y_ = (([] : List (S31)) ++ y641) := ⟨_, rfl⟩
                          replace H : (if y645.length < 8796093022208 then ((some (y645 ++ [(⟨(rd_T31 l0_5 (ji17)).f0, IntKind.u64.wrap (1 + (Int.tmod a0_7 (IntKind.u64.wrap (((rd_T31 l0_5 (ji17)).f1) - 1))))⟩ : S31)] : List (S31))).bind fun y649 => (if y649.length < 8796093022208 then ((some (y649 ++ [(⟨(rd_T31 l0_5 (ji17)).f0, IntKind.u64.wrap (((rd_T31 l0_5 (ji17)).f1) - (IntKind.u64.wrap (1 + (Int.tmod a0_7 (IntKind.u64.wrap (((rd_T31 l0_5 (ji17)).f1) - 1))))))⟩ : S31)] : List (S31))).bind fun y654 => (if 0 ≤ (wrap64 ((ji17) + 1)) then (if (wrap64 ((ji17) + 1)) ≤ (l0_5.length : Int) then ((some (l0_5.drop ((wrap64 ((ji17) + 1)) : Int).toNat : List (S31))).bind fun y657 => (if y654.length + y657.length < 8796093022208 then ((some (y654 ++ y657 : List (S31))).bind fun y661 => ((audit_Level.f kj3 a0_0 a0_1 a0_2 a0_3 a0_4 y661).bind fun bt664 => ((audit_Conforms.f kj3 a0_0 a0_1 a0_2 a0_3 a0_4 y661).bind fun t669 => (if (t669 != t633) = true then (some false) else (if (!(bt664.1 == t634) || (!(bt664.2.1 == t635) || (!(bt664.2.2.1 == t636)))) = true then (some false) else (if (bt664.2.2.2 != t637) = true then (some false) else (turnstilelaw24_AuditSplits.j1 kj3 l0_5 t633 t637 a0_0 a0_1 a0_2 a0_3 a0_4 t634 t635 t636))))))) else (none))) else (none)) else (none))) else (none))) else (none)) = some r := by first | (rw [hy645]; with_reducible exact H) | (have H2_ := (Option.bind_some _ _).symm.trans H; rw [hy645]; with_reducible exact H2_) | (have H2_ := (Option.bind_some _ _).symm.trans H; with_reducible exact H2_) | with_reducible exact H | (rw [hy645]; exact H) | exact H
                          have Ny645 := Aside0.mk hy645
                          clear hy645
                          by_cases c35 : y645.length < 8796093022208
                          · rw [if_pos c35] at H
                            have LMc35 := Aside0.mk c35
                            clear c35
                            obtain ⟨y649, hy649⟩ : ∃ y_ : List (S31), y_ = (y645 ++ [(⟨(rd_T31 l0_5 (ji17)).f0, IntKind.u64.wrap (1 + (Int.tmod a0_7 (IntKind.u64.wrap (((rd_T31 l0_5 (ji17)).f1) - 1))))⟩ : S31)]) := ⟨_, rfl⟩
                            replace H : (if y649.length < 8796093022208 then ((some (y649 ++ [(⟨(rd_T31 l0_5 (ji17)).f0, IntKind.u64.wrap (((rd_T31 l0_5 (ji17)).f1) - (IntKind.u64.wrap (1 + (Int.tmod a0_7 (IntKind.u64.wrap (((rd_T31 l0_5 (ji17)).f1) - 1))))))⟩ : S31)] : List (S31))).bind fun y654 => (if 0 ≤ (wrap64 ((ji17) + 1)) then (if (wrap64 ((ji17) + 1)) ≤ (l0_5.length : Int) then ((some (l0_5.drop ((wrap64 ((ji17) + 1)) : Int).toNat : List (S31))).bind fun y657 => (if y654.length + y657.length < 8796093022208 then ((some (y654 ++ y657 : List (S31))).bind fun y661 => ((audit_Level.f kj3 a0_0 a0_1 a0_2 a0_3 a0_4 y661).bind fun bt664 => ((audit_Conforms.f kj3 a0_0 a0_1 a0_2 a0_3 a0_4 y661).bind fun t669 => (if (t669 != t633) = true then (some false) else (if (!(bt664.1 == t634) || (!(bt664.2.1 == t635) || (!(bt664.2.2.1 == t636)))) = true then (some false) else (if (bt664.2.2.2 != t637) = true then (some false) else (turnstilelaw24_AuditSplits.j1 kj3 l0_5 t633 t637 a0_0 a0_1 a0_2 a0_3 a0_4 t634 t635 t636))))))) else (none))) else (none)) else (none))) else (none)) = some r := by first | (rw [hy649]; with_reducible exact H) | (have H2_ := (Option.bind_some _ _).symm.trans H; rw [hy649]; with_reducible exact H2_) | (have H2_ := (Option.bind_some _ _).symm.trans H; with_reducible exact H2_) | with_reducible exact H | (rw [hy649]; exact H) | exact H
                            have Ny649 := Aside0.mk hy649
                            clear hy649
                            by_cases c36 : y649.length < 8796093022208
                            · rw [if_pos c36] at H
                              have LMc36 := Aside0.mk c36
                              clear c36
                              obtain ⟨y654, hy654⟩ : ∃ y_ : List (S31), y_ = (y649 ++ [(⟨(rd_T31 l0_5 (ji17)).f0, IntKind.u64.wrap (((rd_T31 l0_5 (ji17)).f1) - (IntKind.u64.wrap (1 + (Int.tmod a0_7 (IntKind.u64.wrap (((rd_T31 l0_5 (ji17)).f1) - 1))))))⟩ : S31)]) := ⟨_, rfl⟩
                              replace H : (if 0 ≤ (wrap64 ((ji17) + 1)) then (if (wrap64 ((ji17) + 1)) ≤ (l0_5.length : Int) then ((some (l0_5.drop ((wrap64 ((ji17) + 1)) : Int).toNat : List (S31))).bind fun y657 => (if y654.length + y657.length < 8796093022208 then ((some (y654 ++ y657 : List (S31))).bind fun y661 => ((audit_Level.f kj3 a0_0 a0_1 a0_2 a0_3 a0_4 y661).bind fun bt664 => ((audit_Conforms.f kj3 a0_0 a0_1 a0_2 a0_3 a0_4 y661).bind fun t669 => (if (t669 != t633) = true then (some false) else (if (!(bt664.1 == t634) || (!(bt664.2.1 == t635) || (!(bt664.2.2.1 == t636)))) = true then (some false) else (if (bt664.2.2.2 != t637) = true then (some false) else (turnstilelaw24_AuditSplits.j1 kj3 l0_5 t633 t637 a0_0 a0_1 a0_2 a0_3 a0_4 t634 t635 t636))))))) else (none))) else (none)) else (none)) = some r := by first | (rw [hy654]; with_reducible exact H) | (have H2_ := (Option.bind_some _ _).symm.trans H; rw [hy654]; with_reducible exact H2_) | (have H2_ := (Option.bind_some _ _).symm.trans H; with_reducible exact H2_) | with_reducible exact H | (rw [hy654]; exact H) | exact H
                              have Ny654 := Aside0.mk hy654
                              clear hy654
                              obtain ⟨ji37, hji37⟩ : ∃ j_ : Int, (wrap64 ((ji17) + 1)) = j_ := ⟨_, rfl⟩
                              replace H : (if 0 ≤ (ji37) then (if (ji37) ≤ (l0_5.length : Int) then ((some (l0_5.drop ((ji37) : Int).toNat : List (S31))).bind fun y657 => (if y654.length + y657.length < 8796093022208 then ((some (y654 ++ y657 : List (S31))).bind fun y661 => ((audit_Level.f kj3 a0_0 a0_1 a0_2 a0_3 a0_4 y661).bind fun bt664 => ((audit_Conforms.f kj3 a0_0 a0_1 a0_2 a0_3 a0_4 y661).bind fun t669 => (if (t669 != t633) = true then (some false) else (if (!(bt664.1 == t634) || (!(bt664.2.1 == t635) || (!(bt664.2.2.1 == t636)))) = true then (some false) else (if (bt664.2.2.2 != t637) = true then (some false) else (turnstilelaw24_AuditSplits.j1 kj3 l0_5 t633 t637 a0_0 a0_1 a0_2 a0_3 a0_4 t634 t635 t636))))))) else (none))) else (none)) else (none)) = some r := by first | (rw [hji37] at H; exact H) | (simp only [hji37] at H ⊢; exact H)
                              have hji37w : (IntKind.i64.wrap ((ji17) + 1)) = ji37 := (i64_w _).trans hji37
                              by_cases c38 : 0 ≤ (ji37)
                              · rw [if_pos c38] at H
                                have c38b0 := eq_true c38
                                have c38b1 : decide (0 ≤ (ji37)) = true := decide_eq_true c38
                                clear c38
                                by_cases c39 : (ji37) ≤ (l0_5.length : Int)
                                · rw [if_pos c39] at H
                                  have c39b0 := eq_true c39
                                  have c39b1 : decide ((ji37) ≤ (l0_5.length : Int)) = true := decide_eq_true c39
                                  clear c39
                                  obtain ⟨y657, hy657⟩ : ∃ y_ : List (S31), y_ = (l0_5.drop ((ji37) : Int).toNat) := ⟨_, rfl⟩
                                  replace H : (if y654.length + y657.length < 8796093022208 then ((some (y654 ++ y657 : List (S31))).bind fun y661 => ((audit_Level.f kj3 a0_0 a0_1 a0_2 a0_3 a0_4 y661).bind fun bt664 => ((audit_Conforms.f kj3 a0_0 a0_1 a0_2 a0_3 a0_4 y661).bind fun t669 => (if (t669 != t633) = true then (some false) else (if (!(bt664.1 == t634) || (!(bt664.2.1 == t635) || (!(bt664.2.2.1 == t636)))) = true then (some false) else (if (bt664.2.2.2 != t637) = true then (some false) else (turnstilelaw24_AuditSplits.j1 kj3 l0_5 t633 t637 a0_0 a0_1 a0_2 a0_3 a0_4 t634 t635 t636))))))) else (none)) = some r := by first | (rw [hy657]; with_reducible exact H) | (have H2_ := (Option.bind_some _ _).symm.trans H; rw [hy657]; with_reducible exact H2_) | (have H2_ := (Option.bind_some _ _).symm.trans H; with_reducible exact H2_) | with_reducible exact H | (rw [hy657]; exact H) | exact H
                                  have Ny657 := Aside0.mk hy657
                                  clear hy657
                                  by_cases c40 : y654.length + y657.length < 8796093022208
                                  · rw [if_pos c40] at H
                                    have LMc40 := Aside0.mk c40
                                    clear c40
                                    obtain ⟨y661, hy661⟩ : ∃ y_ : List (S31), y_ = (y654 ++ y657) := ⟨_, rfl⟩
                                    replace H : ((audit_Level.f kj3 a0_0 a0_1 a0_2 a0_3 a0_4 y661).bind fun bt664 => ((audit_Conforms.f kj3 a0_0 a0_1 a0_2 a0_3 a0_4 y661).bind fun t669 => (if (t669 != t633) = true then (some false) else (if (!(bt664.1 == t634) || (!(bt664.2.1 == t635) || (!(bt664.2.2.1 == t636)))) = true then (some false) else (if (bt664.2.2.2 != t637) = true then (some false) else (turnstilelaw24_AuditSplits.j1 kj3 l0_5 t633 t637 a0_0 a0_1 a0_2 a0_3 a0_4 t634 t635 t636)))))) = some r := by first | (rw [hy661]; with_reducible exact H) | (have H2_ := (Option.bind_some _ _).symm.trans H; rw [hy661]; with_reducible exact H2_) | (have H2_ := (Option.bind_some _ _).symm.trans H; with_reducible exact H2_) | with_reducible exact H | (rw [hy661]; exact H) | exact H
                                    have Ny661 := Aside0.mk hy661
                                    clear hy661
                                    replace H := Option.bind_eq_some_iff.mp H
                                    obtain ⟨⟨t664, t665, t666, t667⟩, A410, H⟩ := H
                                    replace H : ((audit_Conforms.f kj3 a0_0 a0_1 a0_2 a0_3 a0_4 y661).bind fun t669 => (if (t669 != t633) = true then (some false) else (if (!(t664 == t634) || (!(t665 == t635) || (!(t666 == t636)))) = true then (some false) else (if (t667 != t637) = true then (some false) else (turnstilelaw24_AuditSplits.j1 kj3 l0_5 t633 t637 a0_0 a0_1 a0_2 a0_3 a0_4 t634 t635 t636))))) = some r := H
                                    have A41 := Aside0.mk A410
                                    clear A410
                                    replace H := Option.bind_eq_some_iff.mp H
                                    obtain ⟨t669, A420, H⟩ := H
                                    replace H : (if (t669 != t633) = true then (some false) else (if (!(t664 == t634) || (!(t665 == t635) || (!(t666 == t636)))) = true then (some false) else (if (t667 != t637) = true then (some false) else (turnstilelaw24_AuditSplits.j1 kj3 l0_5 t633 t637 a0_0 a0_1 a0_2 a0_3 a0_4 t634 t635 t636)))) = some r := H
                                    have A42 := Aside0.mk A420
                                    clear A420
                                    by_cases c43 : (t669 != t633) = true
                                    · rw [if_pos c43] at H
                                      have c43b0 : (t669 != t633) = true := c43
                                      (try (have c43b1 : decide (t669 = t633) = false := by simpa using c43))
                                      (try (have c43b2 : (t669 == t633) = false := by simpa using c43))
                                      (try (have c43b3 : ¬ (t669 = t633) := by simpa using c43))
                                      clear c43
                                      obtain rfl := Option.some.inj H
                                      have n0_ : Aside0 ((((w26.setCell ⟨gb638, 0, none⟩ (.int .u64 t634)).setCell ⟨gb638, 1, none⟩ (.int .u64 t635)).setCell ⟨gb638, 2, none⟩ (.int .u64 t636)).heap[gb630]? = some (.cells #[.int .i64 a0_0, .int .u64 a0_1, .int .u64 a0_2, .int .u64 a0_3, .int .u64 a0_4, .slice (some ad639) l0_5.length c0_5, .int .i64 a0_6, .int .u64 a0_7] 55 (0, 0))) := ⟨bk BK630⟩
                                      have n1_ : Aside0 ((((w26.setCell ⟨gb638, 0, none⟩ (.int .u64 t634)).setCell ⟨gb638, 1, none⟩ (.int .u64 t635)).setCell ⟨gb638, 2, none⟩ (.int .u64 t636)).heap[gb632]? = some (.cells #[.int .i64 a0_0, .int .u64 a0_1, .int .u64 a0_2, .int .u64 a0_3, .int .u64 a0_4] 24 (0, 0))) := ⟨bk BK632⟩
                                      have n2_ : Aside0 ((((w26.setCell ⟨gb638, 0, none⟩ (.int .u64 t634)).setCell ⟨gb638, 1, none⟩ (.int .u64 t635)).setCell ⟨gb638, 2, none⟩ (.int .u64 t636)).heap[gb638]? = some (.cells #[.int .u64 t634, .int .u64 t635, .int .u64 t636] 40 (0, 0))) := ⟨bk BK638⟩
                                      have n3_ : Aside0 (Below w.heap.size w (((w26.setCell ⟨gb638, 0, none⟩ (.int .u64 t634)).setCell ⟨gb638, 1, none⟩ (.int .u64 t635)).setCell ⟨gb638, 2, none⟩ (.int .u64 t636))) := ⟨bw HB⟩
                                      (try clear BK630)
                                      (try clear BK632)
                                      (try clear BK638)
                                      (try clear HB)
                                      generalize (((w26.setCell ⟨gb638, 0, none⟩ (.int .u64 t634)).setCell ⟨gb638, 1, none⟩ (.int .u64 t635)).setCell ⟨gb638, 2, none⟩ (.int .u64 t636)) = w44 at n0_ n1_ n2_ n3_ ⊢
                                      have BK630 := n0_
                                      have BK632 := n1_
                                      have BK638 := n2_
                                      have HB := n3_
                                      clear n0_ n1_ n2_ n3_
                                      have p640 : 0 ≤ ((ji17) : Int) := of_decide_eq_true (by first | (with_reducible assumption) | assumption)
                                      have q640 : (ji17) < (l0_5.length : Int) := of_decide_eq_true (by first | (with_reducible assumption) | assumption)
                                      obtain ⟨ad640, e640, hx640_0, hx640_1⟩ := at_T31 HR0_5.out (ji17) p640 q640
                                      obtain rfl : ad639 = ad640 := (by injection e640)
                                      replace hx640_0 := (HB.out.cell (World.block_lt_of_cell? w _ hx640_0)).trans hx640_0
                                      replace hx640_1 := (HB.out.cell (World.block_lt_of_cell? w _ hx640_1)).trans hx640_1
                                      replace p640 := eq_true p640
                                      replace q640 := eq_true q640
                                      have q45 : ((ji17) : Int) ≤ ((l0_5.length : Int) : Int) := of_decide_eq_true (by first | (with_reducible assumption) | assumption)
                                      obtain ⟨i045, hi045, _, hsz45, _⟩ := info_parts info31
                                      have hroom45 : l0_5.length ≤ c0_5 := HC0_5.out
                                      have hC45 : Kd.C k31 _ (some ad639) l0_5.length l0_5 := HR0_5.out
                                      have hcut45 := cut_to (P := Try.prog) 25 31 .i64 Try.underlying25 hi045 (some ad639) l0_5.length c0_5 (ji17) (of_decide_eq_true (by first | (with_reducible assumption) | assumption)) q45 hroom45
                                      have hr45 := Kd.C_take (m := ((ji17) : Int).toNat) hC45 (by omega)
                                      have hy45 : y641.length = ((ji17) : Int).toNat := (by rw [Ny641.out, List.length_take]; omega)
                                      rw [← Ny641.out] at hr45
                                      rw [← hy45] at hcut45
                                      have HR644 := Aside0.mk hr45
                                      have HC644 := Aside0.mk (show y641.length ≤ c0_5 from by omega)
                                      clear hr45 hC45 hroom45 hi045 hsz45
                                      have KY45 := Aside0.mk hy45
                                      clear hy45
                                      replace q45 := eq_true q45
                                      try go_wp2_with (first | ((with_reducible refine gate_builtin (b := .append) (xs := #[.tmp 68, .tmp 71]) rfl ?_); (try (refine gate_guard (by rfl) ?_; dsimp only)); at_builtin; refine Kd.R_append_rows k31 (w0 := w) w.heap.size rfl (.tmp 68) (.tmp 71) 25 31 (.agg #[(.int .u64 0), (.int .u64 0)]) 16 rfl Try.underlying25 info31 rfl (by decide) (by omega) (.slice none 0 0) ([] : List (S31)) y641 _ _ _ (fun _ => True) (fun _ => False) rfl rfl ?aO ?aR (fun _ _ h => h) (fun _ h => h.elim) ?aF ?aB ?aS ?aL ?_; (case aR => repeat (first | exact (Kd.C_below HR644.out HB.out) | (with_reducible refine Kd.C_alloc ?_ _) | (with_reducible refine Kd.C_drewN ?_ _) | (with_reducible refine Kd.C_drew ?_))); (case aB => exact (bw HB)); (case aF => exact (fun _ _ => trivial)); (case aO => exact ((Kd.R_nil _ _ _ _ (fun _ => True)))); (case aS => exact (below_size (bw HB))); (case aL => have := LMc34.out; omega); intro v646 w46 ho hb hg hat; rw [← Ny645.out] at ho; have n0_ := Aside0.mk (blk_grown (g := gb630) (o := .cells #[.int .i64 a0_0, .int .u64 a0_1, .int .u64 a0_2, .int .u64 a0_3, .int .u64 a0_4, .slice (some ad639) l0_5.length c0_5, .int .i64 a0_6, .int .u64 a0_7] 55 (0, 0)) (bk BK630) hg (by simp [Value.ownBlock])); have n1_ := Aside0.mk (blk_grown (g := gb632) (o := .cells #[.int .i64 a0_0, .int .u64 a0_1, .int .u64 a0_2, .int .u64 a0_3, .int .u64 a0_4] 24 (0, 0)) (bk BK632) hg (by simp [Value.ownBlock])); have n2_ := Aside0.mk (blk_grown (g := gb638) (o := .cells #[.int .u64 t634, .int .u64 t635, .int .u64 t636] 40 (0, 0)) (bk BK638) hg (by simp [Value.ownBlock])); have n3_ := Aside0.mk (hb); have n4_ := Aside0.mk (ho); clear BK630; clear BK632; clear BK638; clear HB; have BK630 := n0_; have BK632 := n1_; have BK638 := n2_; have HB := n3_; have HO647 := n4_; clear n0_ n1_ n2_ n3_ n4_; clear ho hb hg hat; have p648 : 0 ≤ ((ji17) : Int) := of_decide_eq_true (by first | (with_reducible assumption) | assumption); have q648 : (ji17) < (l0_5.length : Int) := of_decide_eq_true (by first | (with_reducible assumption) | assumption); obtain ⟨ad648, e648, hx648_0, hx648_1⟩ := at_T31 HR0_5.out (ji17) p648 q648; obtain rfl : ad639 = ad648 := (by injection e648); replace hx648_0 := (HB.out.cell (World.block_lt_of_cell? w _ hx648_0)).trans hx648_0; replace hx648_1 := (HB.out.cell (World.block_lt_of_cell? w _ hx648_1)).trans hx648_1; replace p648 := eq_true p648; replace q648 := eq_true q648) | ((with_reducible refine gate_builtin (b := .append) (xs := #[.tmp 73, .tmp 81]) rfl ?_); (try (refine gate_guard (by rfl) ?_; dsimp only)); at_builtin; refine Kd.R_append k31 (w0 := w) w.heap.size rfl (.tmp 73) (.tmp 81) 25 31 (.agg #[(.int .u64 0), (.int .u64 0)]) 16 rfl Try.underlying25 info31 rfl (by decide) (by omega) v646 y645 (⟨(rd_T31 l0_5 (ji17)).f0, IntKind.u64.wrap (1 + (Int.tmod a0_7 (IntKind.u64.wrap (((rd_T31 l0_5 (ji17)).f1) - 1))))⟩ : S31) [.int .u64 ((rd_T31 l0_5 (ji17)).f0), .int .u64 (IntKind.u64.wrap (1 + (Int.tmod a0_7 (IntKind.u64.wrap (((rd_T31 l0_5 (ji17)).f1) - 1)))))] (fun _ => True) (fun _ => False) rfl rfl ?aP (fun _ hk => hk.elim) ?aF ?aO ?aB ?aS ?aL ?_; (case aP => exact k31_mkM _ _ _ (⟨(rd_T31 l0_5 (ji17)).f0, IntKind.u64.wrap (1 + (Int.tmod a0_7 (IntKind.u64.wrap (((rd_T31 l0_5 (ji17)).f1) - 1))))⟩ : S31)); (case aB => exact (bw HB)); (case aF => exact (fun _ _ => trivial)); (case aO => exact (by (with_reducible repeat (first | apply Kd.R_alloc | apply Kd.R_drewN | apply Kd.R_drew)); exact HO647.out)); (case aS => exact (below_size (bw HB))); (case aL => have := LMc35.out; omega); intro v650 w47 ho hb hg hat; rw [← Ny649.out] at ho; have n0_ := Aside0.mk (blk_grown (g := gb630) (o := .cells #[.int .i64 a0_0, .int .u64 a0_1, .int .u64 a0_2, .int .u64 a0_3, .int .u64 a0_4, .slice (some ad639) l0_5.length c0_5, .int .i64 a0_6, .int .u64 a0_7] 55 (0, 0)) (bk BK630) hg (Kd.R_ne HO647.out BK630.out (by decide))); have n1_ := Aside0.mk (blk_grown (g := gb632) (o := .cells #[.int .i64 a0_0, .int .u64 a0_1, .int .u64 a0_2, .int .u64 a0_3, .int .u64 a0_4] 24 (0, 0)) (bk BK632) hg (Kd.R_ne HO647.out BK632.out (by decide))); have n2_ := Aside0.mk (blk_grown (g := gb638) (o := .cells #[.int .u64 t634, .int .u64 t635, .int .u64 t636] 40 (0, 0)) (bk BK638) hg (Kd.R_ne HO647.out BK638.out (by decide))); have n3_ := Aside0.mk (hb); have n4_ := Aside0.mk (ho); clear BK630; clear BK632; clear BK638; clear HB; clear HO647; have BK630 := n0_; have BK632 := n1_; have BK638 := n2_; have HB := n3_; have HO651 := n4_; clear n0_ n1_ n2_ n3_ n4_; clear ho hb hg hat))
                                      have n0_ := Aside0.mk (Kd.R_drew HO651.out)
                                      have n1_ := Aside0.mk (blk_drew BK630.out)
                                      have n2_ := Aside0.mk (blk_drew BK632.out)
                                      have n3_ := Aside0.mk (blk_drew BK638.out)
                                      have n4_ := Aside0.mk (below_drew1 HB.out)
                                      clear HO651
                                      clear BK630
                                      clear BK632
                                      clear BK638
                                      clear HB
                                      have HO651 := n0_
                                      have BK630 := n1_
                                      have BK632 := n2_
                                      have BK638 := n3_
                                      have HB := n4_
                                      clear n0_ n1_ n2_ n3_ n4_
                                      have p652 : 0 ≤ ((ji17) : Int) := of_decide_eq_true (by first | (with_reducible assumption) | assumption)
                                      have q652 : (ji17) < (l0_5.length : Int) := of_decide_eq_true (by first | (with_reducible assumption) | assumption)
                                      obtain ⟨ad652, e652, hx652_0, hx652_1⟩ := at_T31 HR0_5.out (ji17) p652 q652
                                      have hw652_1 := hx652_1
                                      have hw652_0 := hx652_0
                                      obtain rfl : ad639 = ad652 := (by injection e652)
                                      replace hx652_0 := (HB.out.cell (World.block_lt_of_cell? w _ hx652_0)).trans hx652_0
                                      replace hx652_1 := (HB.out.cell (World.block_lt_of_cell? w _ hx652_1)).trans hx652_1
                                      replace p652 := eq_true p652
                                      replace q652 := eq_true q652
                                      have p653 : 0 ≤ ((ji17) : Int) := of_decide_eq_true (by first | (with_reducible assumption) | assumption)
                                      have q653 : (ji17) < (l0_5.length : Int) := of_decide_eq_true (by first | (with_reducible assumption) | assumption)
                                      obtain ⟨ad653, e653, hx653_0, hx653_1⟩ := at_T31 HR0_5.out (ji17) p653 q653
                                      have hw653_1 := hx653_1
                                      have hw653_0 := hx653_0
                                      obtain rfl : ad639 = ad653 := (by injection e653)
                                      replace hx653_0 := (HB.out.cell (World.block_lt_of_cell? w _ hx653_0)).trans hx653_0
                                      replace hx653_1 := (HB.out.cell (World.block_lt_of_cell? w _ hx653_1)).trans hx653_1
                                      replace p653 := eq_true p653
                                      replace q653 := eq_true q653
                                      refine start_ (n := 17) (S := fun w' => w'.cell? (ad639.add (((ji17)).toNat * 2)) = some (.int .u64 ((rd_T31 l0_5 (ji17)).f0)) ∧ w'.cell? ⟨(ad639.add (((ji17)).toNat * 2)).block, (ad639.add (((ji17)).toNat * 2)).off + 1, none⟩ = some (.int .u64 ((rd_T31 l0_5 (ji17)).f1)) ∧ w'.cell? (ad639.add (((ji17)).toNat * 2)) = some (.int .u64 ((rd_T31 l0_5 (ji17)).f0)) ∧ w'.cell? ⟨(ad639.add (((ji17)).toNat * 2)).block, (ad639.add (((ji17)).toNat * 2)).off + 1, none⟩ = some (.int .u64 ((rd_T31 l0_5 (ji17)).f1))) (ds := []) #[false, false, false, false, false, false, false, false, false, false, false, false, false, false, false, false, false] (by kernel_rfl) rfl rfl ⟨((HB.out.cell (World.block_lt_of_cell? w _ hw652_0)).trans hw652_0), ((HB.out.cell (World.block_lt_of_cell? w _ hw652_1)).trans hw652_1), ((HB.out.cell (World.block_lt_of_cell? w _ hw653_0)).trans hw653_0), ((HB.out.cell (World.block_lt_of_cell? w _ hw653_1)).trans hw653_1)⟩ (fun hHeld => ?_); refine with_tabW turnstilelaw24_AuditSplits.tab17 turnstilelaw24_AuditSplits.bits17 (fun HT_ HW_ => ?_)
                                      generalize w47.drew = w48 at HO651 BK630 BK632 BK638 HB hx652_0 hx652_1 hx653_0 hx653_1 hHeld ⊢
                                      refine chain_ (fuel := 3) [(0, 0, some 83), (1, 0, some 84), (2, 0, some 85), (3, 0, some 86), (4, 0, some 87), (6, 0, some 89), (7, 0, some 90), (8, 0, some 91), (9, 0, some 92), (11, 0, some 94), (5, 1, some 88), (10, 1, some 93), (12, 0, some 95), (13, 0, some 96)] #[true, true, true, true, true, true, true, true, true, true, true, true, true, true, false, false, false] HT_.out HW_.out (by kernel_rfl) (fun _ _ _ _ _ h => h) (Or.inr hHeld) rfl ?_
                                      (iterate 10 refine lkP ?_); (iterate 2 refine lkT ?_); (iterate 2 refine lkP ?_); refine .nil ?_
                                      refine one_ (i := 14) (N := some 97) #[true, true, true, true, true, true, true, true, true, true, true, true, true, true, true, false, false] rfl rfl (one_of HT_.out (by kernel_rfl)) (by decide) (fun K hK => ?_)
                                      refine value_ (w1 := ?_) (v := ?_) (by rfl) rfl ?_ ?_
                                      rotate_left 2
                                      · go_simp
                                        constructor
                                        · rfl
                                        · rfl
                                      refine hK.out _ _ ⟨(World.cell?_alloc_lt _ _ _ (World.block_lt_of_cell? _ _ (((HB.out.cell (World.block_lt_of_cell? w _ hw652_0)).trans hw652_0)))).trans (((HB.out.cell (World.block_lt_of_cell? w _ hw652_0)).trans hw652_0)), (World.cell?_alloc_lt _ _ _ (World.block_lt_of_cell? _ _ (((HB.out.cell (World.block_lt_of_cell? w _ hw652_1)).trans hw652_1)))).trans (((HB.out.cell (World.block_lt_of_cell? w _ hw652_1)).trans hw652_1)), (World.cell?_alloc_lt _ _ _ (World.block_lt_of_cell? _ _ (((HB.out.cell (World.block_lt_of_cell? w _ hw653_0)).trans hw653_0)))).trans (((HB.out.cell (World.block_lt_of_cell? w _ hw653_0)).trans hw653_0)), (World.cell?_alloc_lt _ _ _ (World.block_lt_of_cell? _ _ (((HB.out.cell (World.block_lt_of_cell? w _ hw653_1)).trans hw653_1)))).trans (((HB.out.cell (World.block_lt_of_cell? w _ hw653_1)).trans hw653_1))⟩ (fun hHeld => ?_)
                                      clear hK K
                                      refine norm_ (a' := ?_) ?_ ?_
                                      rotate_left
                                      · show Act.put _ (some 97) _ = _
                                        simp only [Act.put, List.setIfInBounds_toArray, List.set_cons_zero, List.set_cons_succ, i64_w, i32_w]
                                        rfl
                                      refine one_ (i := 15) (N := some 98) #[true, true, true, true, true, true, true, true, true, true, true, true, true, true, true, true, false] rfl rfl (one_of HT_.out (by kernel_rfl)) (by decide) (fun K hK => ?_)
                                      refine Kd.R_append_step k31 (w0 := w) w.heap.size (by rfl) (.tmp 83) (.tmp 97) 25 31 (.agg #[(.int .u64 0), (.int .u64 0)]) 16 rfl Try.underlying25 info31 rfl (by decide) (by omega) v650 y649 (⟨(rd_T31 l0_5 (ji17)).f0, IntKind.u64.wrap (((rd_T31 l0_5 (ji17)).f1) - (IntKind.u64.wrap (1 + (Int.tmod a0_7 (IntKind.u64.wrap (((rd_T31 l0_5 (ji17)).f1) - 1))))))⟩ : S31) [.int .u64 ((rd_T31 l0_5 (ji17)).f0), .int .u64 (IntKind.u64.wrap (((rd_T31 l0_5 (ji17)).f1) - (IntKind.u64.wrap (1 + (Int.tmod a0_7 (IntKind.u64.wrap (((rd_T31 l0_5 (ji17)).f1) - 1)))))))] (fun _ => True) (fun _ => False) rfl rfl ?aP (fun _ hk => hk.elim) ?aF ?aO ?aB ?aS ?aL ?_
                                      (case aP => exact k31_mkM _ _ _ (⟨(rd_T31 l0_5 (ji17)).f0, IntKind.u64.wrap (((rd_T31 l0_5 (ji17)).f1) - (IntKind.u64.wrap (1 + (Int.tmod a0_7 (IntKind.u64.wrap (((rd_T31 l0_5 (ji17)).f1) - 1))))))⟩ : S31))
                                      (case aB => exact (bw HB))
                                      (case aF => exact (fun _ _ => trivial))
                                      (case aO => exact (by (with_reducible repeat (first | apply Kd.R_alloc | apply Kd.R_drewN | apply Kd.R_drew)); exact HO651.out))
                                      (case aS => exact (below_size (bw HB)))
                                      (case aL => have := LMc36.out; omega)
                                      intro v655 w49 ho hb hg hat
                                      rw [← Ny654.out] at ho
                                      have n0_ := Aside0.mk (blk_grown (g := gb630) (o := .cells #[.int .i64 a0_0, .int .u64 a0_1, .int .u64 a0_2, .int .u64 a0_3, .int .u64 a0_4, .slice (some ad639) l0_5.length c0_5, .int .i64 a0_6, .int .u64 a0_7] 55 (0, 0)) (bk BK630) hg (Kd.R_ne HO651.out BK630.out (by decide)))
                                      have n1_ := Aside0.mk (blk_grown (g := gb632) (o := .cells #[.int .i64 a0_0, .int .u64 a0_1, .int .u64 a0_2, .int .u64 a0_3, .int .u64 a0_4] 24 (0, 0)) (bk BK632) hg (Kd.R_ne HO651.out BK632.out (by decide)))
                                      have n2_ := Aside0.mk (blk_grown (g := gb638) (o := .cells #[.int .u64 t634, .int .u64 t635, .int .u64 t636] 40 (0, 0)) (bk BK638) hg (Kd.R_ne HO651.out BK638.out (by decide)))
                                      have n3_ := Aside0.mk (hb)
                                      have n4_ := Aside0.mk (ho)
                                      clear BK630
                                      clear BK632
                                      clear BK638
                                      clear HB
                                      clear HO651
                                      have BK630 := n0_
                                      have BK632 := n1_
                                      have BK638 := n2_
                                      have HB := n3_
                                      have HO656 := n4_
                                      clear n0_ n1_ n2_ n3_ n4_
                                      clear ho hb hg hat
                                      refine hK.out _ _ ⟨((HB.out.cell (World.block_lt_of_cell? w _ hw652_0)).trans hw652_0), ((HB.out.cell (World.block_lt_of_cell? w _ hw652_1)).trans hw652_1), ((HB.out.cell (World.block_lt_of_cell? w _ hw653_0)).trans hw653_0), ((HB.out.cell (World.block_lt_of_cell? w _ hw653_1)).trans hw653_1)⟩ (fun hHeld => ?_)
                                      clear hK K
                                      refine norm_ (a' := ?_) ?_ ?_
                                      rotate_left
                                      · show Act.put _ (some 98) _ = _
                                        simp only [Act.put, List.setIfInBounds_toArray, List.set_cons_zero, List.set_cons_succ, i64_w, i32_w]
                                        rfl
                                      refine chain_ (fuel := 0) [(16, 0, some 12)] #[true, true, true, true, true, true, true, true, true, true, true, true, true, true, true, true, true] HT_.out HW_.out (by kernel_rfl) (fun _ _ _ _ _ h => h) (Or.inl (by decide)) rfl ?_
                                      refine lkP ?_; refine .nil ?_
                                      refine done_ (done_of HT_.out (by kernel_rfl)) ?_
                                      have q50 : ((ji37) : Int) ≤ ((l0_5.length : Int) : Int) := of_decide_eq_true (by first | (with_reducible assumption) | assumption)
                                      obtain ⟨i050, hi050, _, hsz50, _⟩ := info_parts info31
                                      have hroom50 : l0_5.length ≤ c0_5 := HC0_5.out
                                      have hC50 : Kd.C k31 _ (some ad639) l0_5.length l0_5 := HR0_5.out
                                      have q050 : (0 : Int) ≤ ((ji37) : Int) := of_decide_eq_true (by first | (with_reducible assumption) | assumption)
                                      have hcut50 := cut_from (P := Try.prog) 25 31 .i64 Try.underlying25 hi050 2 hsz50 (some ad639) l0_5.length c0_5 (ji37) q050 q50
                                      have hr50 := Kd.C_drop (m := ((ji37) : Int).toNat) (c := c0_5) hC50 (by omega) hroom50
                                      obtain ⟨A50, hA50⟩ : ∃ A1, A1 = (if c0_5 = ((ji37) : Int).toNat then (some ad639) else ((some ad639) : Option Addr).map (·.add (((ji37) : Int).toNat * 2))) := ⟨_, rfl⟩
                                      obtain ⟨c50, hc50⟩ : ∃ c1, c1 = c0_5 - ((ji37) : Int).toNat := ⟨_, rfl⟩
                                      have hy50 : y657.length = l0_5.length - ((ji37) : Int).toNat := (by rw [Ny657.out, List.length_drop] <;> omega)
                                      rw [show (l0_5).drop ((ji37) : Int).toNat = y657 from Ny657.out.symm] at hr50
                                      replace hr50 : Kd.C k31 _ A50 y657.length y657 := (by rw [hA50]; exact hr50)
                                      rw [← hy50, ← hA50, ← hc50] at hcut50
                                      have HR660 := Aside0.mk hr50
                                      have HC660 := Aside0.mk (show y657.length ≤ c50 from by rw [hy50, hc50]; exact Nat.sub_le_sub_right hroom50 _)
                                      clear hr50 hC50 hroom50 hi050 hsz50 hc50
                                      have KY50 := Aside0.mk hy50
                                      have KA50 := Aside0.mk hA50
                                      clear hy50 hA50
                                      replace q50 := eq_true q50
                                      try go_wp2_with (first | ((with_reducible refine gate_builtin (b := .append) (xs := #[.tmp 99, .tmp 103]) rfl ?_); (try (refine gate_guard (by rfl) ?_; dsimp only)); at_builtin; refine Kd.R_append_rows k31 (w0 := w) w.heap.size rfl (.tmp 99) (.tmp 103) 25 31 (.agg #[(.int .u64 0), (.int .u64 0)]) 16 rfl Try.underlying25 info31 rfl (by decide) (by omega) v655 y654 y657 _ _ _ (fun _ => True) (fun _ => False) rfl rfl ?aO ?aR (fun _ _ h => h) (fun _ h => h.elim) ?aF ?aB ?aS ?aL ?_; (case aR => repeat (first | exact (Kd.C_below HR660.out HB.out) | (with_reducible refine Kd.C_alloc ?_ _) | (with_reducible refine Kd.C_drewN ?_ _) | (with_reducible refine Kd.C_drew ?_))); (case aB => exact (bw HB)); (case aF => exact (fun _ _ => trivial)); (case aO => exact (by (with_reducible repeat (first | apply Kd.R_alloc | apply Kd.R_drewN | apply Kd.R_drew)); exact HO656.out)); (case aS => exact (below_size (bw HB))); (case aL => have := LMc40.out; omega); intro v662 w51 ho hb hg hat; rw [← Ny661.out] at ho; have n0_ := Aside0.mk (blk_grown (g := gb630) (o := .cells #[.int .i64 a0_0, .int .u64 a0_1, .int .u64 a0_2, .int .u64 a0_3, .int .u64 a0_4, .slice (some ad639) l0_5.length c0_5, .int .i64 a0_6, .int .u64 a0_7] 55 (0, 0)) (bk BK630) hg (Kd.R_ne HO656.out BK630.out (by decide))); have n1_ := Aside0.mk (blk_grown (g := gb632) (o := .cells #[.int .i64 a0_0, .int .u64 a0_1, .int .u64 a0_2, .int .u64 a0_3, .int .u64 a0_4] 24 (0, 0)) (bk BK632) hg (Kd.R_ne HO656.out BK632.out (by decide))); have n2_ := Aside0.mk (blk_grown (g := gb638) (o := .cells #[.int .u64 t634, .int .u64 t635, .int .u64 t636] 40 (0, 0)) (bk BK638) hg (Kd.R_ne HO656.out BK638.out (by decide))); have n3_ := Aside0.mk (hb); have n4_ := Aside0.mk (ho); clear BK630; clear BK632; clear BK638; clear HB; clear HO656; have BK630 := n0_; have BK632 := n1_; have BK638 := n2_; have HB := n3_; have HO663 := n4_; clear n0_ n1_ n2_ n3_ n4_; clear ho hb hg hat; have hnb52 := NB632_630.out; have hnc52 := NB630_632.out; have hnb53 := NB632_638.out; have hnc53 := NB638_632.out; obtain ⟨hcz54_0, hcz54_1, hcz54_2, hcz54_3, hcz54_4, hfz54_0, hfz54_1, hfz54_2, hfz54_3, hfz54_4⟩ := bc5 BK632; obtain ⟨Ao55, co55, eo55⟩ := Kd.R_slice HO663.out; subst eo55) | ((with_reducible refine gate_callee (f := 17) rfl ?_); refine gl (some 108) Try.func17 #[.agg #[.int .i64 a0_0, .int .u64 a0_1, .int .u64 a0_2, .int .u64 a0_3, .int .u64 a0_4], .slice Ao55 y661.length co55] ?_; (with_reducible refine (audit_Level.calls kj3 a0_0 a0_1 a0_2 a0_3 a0_4 _ _ y661 t664 t665 t666 t667 _ ?side1 ?side2 A41.out).mono ?_); (case side1 => repeat (first | exact (Kd.R_reads' HO663.out).2.2 | (with_reducible refine Kd.C_alloc ?_ _) | (with_reducible refine Kd.C_drewN ?_ _) | (with_reducible refine Kd.C_drew ?_))); (case side2 => exact (Kd.R_reads' HO663.out).2.1); rintro e w56 ⟨rfl, hb⟩; refine ⟨_, rfl, ?_⟩; have n0_ := Aside0.mk (Kd.R_below (by (with_reducible repeat (first | apply Kd.R_alloc | apply Kd.R_drewN | apply Kd.R_drew)); exact HO663.out) hb); have n1_ := bb BK630 hb; have n2_ := bb BK632 hb; have n3_ := bb BK638 hb; have n4_ := bs HB hb; clear HO663; clear BK630; clear BK632; clear BK638; clear HB; have HO663 := n0_; have BK630 := n1_; have BK632 := n2_; have BK638 := n3_; have HB := n4_; clear n0_ n1_ n2_ n3_ n4_; (try clear hb); (try clear hb2); (try clear hk); (try clear hi)) | ((with_reducible refine gate_dst (N := 13) rfl ?_); (try (refine gate_guard (by rfl) ?_; dsimp only)); refine bx 13 #[.int .u64 0, .int .u64 0, .int .u64 0] 40 ?_; intro gb668 hg w57 hbox hb; have n0_ := Aside0.mk (Kd.R_below (by (with_reducible repeat (first | apply Kd.R_alloc | apply Kd.R_drewN | apply Kd.R_drew)); exact HO663.out) hb); have n1_ := bb BK630 hb; have n2_ := bb BK632 hb; have n3_ := bb BK638 hb; have n4_ := bs HB hb; have n5_ := Aside0.mk (hbox); have n6_ := sz HB hg; have n7_ := sz HB hg; have n8_ := nl BK630 hg; have n9_ := nr BK630 hg; have n10_ := nl BK632 hg; have n11_ := nr BK632 hg; have n12_ := nl BK638 hg; have n13_ := nr BK638 hg; clear HO663; clear BK630; clear BK632; clear BK638; clear HB; have HO663 := n0_; have BK630 := n1_; have BK632 := n2_; have BK638 := n3_; have HB := n4_; have BK668 := n5_; have GW668 := n6_; have GE668 := n7_; have NB630_668 := n8_; have NB668_630 := n9_; have NB632_668 := n10_; have NB668_632 := n11_; have NB638_668 := n12_; have NB668_638 := n13_; clear n0_ n1_ n2_ n3_ n4_ n5_ n6_ n7_ n8_ n9_ n10_ n11_ n12_ n13_; clear hb hbox hg; have hnb58 := NB668_630.out; have hnc58 := NB630_668.out; have hnb59 := NB668_632.out; have hnc59 := NB632_668.out; have hnb60 := NB668_638.out; have hnc60 := NB638_668.out; obtain ⟨hcz61_0, hcz61_1, hcz61_2, hfz61_0, hfz61_1, hfz61_2⟩ := bc3 BK668; obtain ⟨hcz62_0, hcz62_1, hcz62_2, hcz62_3, hcz62_4, hfz62_0, hfz62_1, hfz62_2, hfz62_3, hfz62_4⟩ := bc5 BK632) | ((with_reducible refine gate_callee (f := 12) rfl ?_); refine gl (some 113) Try.func12 #[.agg #[.int .i64 a0_0, .int .u64 a0_1, .int .u64 a0_2, .int .u64 a0_3, .int .u64 a0_4], .slice Ao55 y661.length co55] ?_; (with_reducible refine (audit_Conforms.calls kj3 a0_0 a0_1 a0_2 a0_3 a0_4 _ _ y661 t669 _ ?side1 ?side2 A42.out).mono ?_); (case side1 => refine (Kd.R_reads' (e := 31) (base := w.heap.size) (ok := fun k_ => True) (n := y661.length) (c := co55) ?_).2.2; exact (by (with_reducible repeat (first | apply Kd.R_alloc | apply Kd.R_drewN | apply Kd.R_drew)); exact (Kd.R_mono (Kd.R_far (p := ⟨gb668, 2, none⟩) (Kd.R_far (p := ⟨gb668, 1, none⟩) (Kd.R_far (p := ⟨gb668, 0, none⟩) (Kd.R_types HO663.out BK668.out (by decide)) (fun _ hk => hk.2) (.int .u64 t664)) (fun _ hk => hk.2) (.int .u64 t665)) (fun _ hk => hk.2) (.int .u64 t666)) (fun _ h_ => h_.1)))); (case side2 => exact (Kd.R_reads' HO663.out).2.1); rintro e w63 ⟨rfl, hb⟩; refine ⟨_, rfl, ?_⟩; have n0_ := Aside0.mk (Kd.R_below (by (with_reducible repeat (first | apply Kd.R_alloc | apply Kd.R_drewN | apply Kd.R_drew)); exact (Kd.R_mono (Kd.R_far (p := ⟨gb668, 2, none⟩) (Kd.R_far (p := ⟨gb668, 1, none⟩) (Kd.R_far (p := ⟨gb668, 0, none⟩) (Kd.R_types HO663.out BK668.out (by decide)) (fun _ hk => hk.2) (.int .u64 t664)) (fun _ hk => hk.2) (.int .u64 t665)) (fun _ hk => hk.2) (.int .u64 t666)) (fun _ h_ => h_.1))) hb); have n1_ := bb BK630 hb; have n2_ := bb BK632 hb; have n3_ := bb BK638 hb; have n4_ := bbp (.cells #[.int .u64 t664, .int .u64 t665, .int .u64 t666] 40 (0, 0)) BK668 hb; have n5_ := bs HB hb; clear HO663; clear BK630; clear BK632; clear BK638; clear BK668; clear HB; have HO663 := n0_; have BK630 := n1_; have BK632 := n2_; have BK638 := n3_; have BK668 := n4_; have HB := n5_; clear n0_ n1_ n2_ n3_ n4_ n5_; (try clear hb); (try clear hb2); (try clear hk); (try clear hi)))
                                      go_ret
                                      exact ⟨by first | rfl | (simp [errW_none, errW_some] <;> rfl) | (simp only [← hji17, ← hji37]; first | rfl | (simp [errW_none, errW_some] <;> rfl)) | (simp [*, errW_none, errW_some] <;> rfl), bw HB⟩
                                    · rw [if_neg c43] at H
                                      have c43b0 : (t669 != t633) = false := by simpa using c43
                                      (try (have c43b1 : decide (t669 = t633) = true := by simpa using c43))
                                      (try (have c43b2 : (t669 == t633) = true := by simpa using c43))
                                      clear c43
                                      by_cases c64 : (!(t664 == t634) || (!(t665 == t635) || (!(t666 == t636)))) = true
                                      · rw [if_pos c64] at H
                                        have c64b0 : (!(t664 == t634) || (!(t665 == t635) || (!(t666 == t636)))) = true := c64
                                        clear c64
                                        obtain rfl := Option.some.inj H
                                        have n0_ : Aside0 ((((w26.setCell ⟨gb638, 0, none⟩ (.int .u64 t634)).setCell ⟨gb638, 1, none⟩ (.int .u64 t635)).setCell ⟨gb638, 2, none⟩ (.int .u64 t636)).heap[gb630]? = some (.cells #[.int .i64 a0_0, .int .u64 a0_1, .int .u64 a0_2, .int .u64 a0_3, .int .u64 a0_4, .slice (some ad639) l0_5.length c0_5, .int .i64 a0_6, .int .u64 a0_7] 55 (0, 0))) := ⟨bk BK630⟩
                                        have n1_ : Aside0 ((((w26.setCell ⟨gb638, 0, none⟩ (.int .u64 t634)).setCell ⟨gb638, 1, none⟩ (.int .u64 t635)).setCell ⟨gb638, 2, none⟩ (.int .u64 t636)).heap[gb632]? = some (.cells #[.int .i64 a0_0, .int .u64 a0_1, .int .u64 a0_2, .int .u64 a0_3, .int .u64 a0_4] 24 (0, 0))) := ⟨bk BK632⟩
                                        have n2_ : Aside0 ((((w26.setCell ⟨gb638, 0, none⟩ (.int .u64 t634)).setCell ⟨gb638, 1, none⟩ (.int .u64 t635)).setCell ⟨gb638, 2, none⟩ (.int .u64 t636)).heap[gb638]? = some (.cells #[.int .u64 t634, .int .u64 t635, .int .u64 t636] 40 (0, 0))) := ⟨bk BK638⟩
                                        have n3_ : Aside0 (Below w.heap.size w (((w26.setCell ⟨gb638, 0, none⟩ (.int .u64 t634)).setCell ⟨gb638, 1, none⟩ (.int .u64 t635)).setCell ⟨gb638, 2, none⟩ (.int .u64 t636))) := ⟨bw HB⟩
                                        (try clear BK630)
                                        (try clear BK632)
                                        (try clear BK638)
                                        (try clear HB)
                                        generalize (((w26.setCell ⟨gb638, 0, none⟩ (.int .u64 t634)).setCell ⟨gb638, 1, none⟩ (.int .u64 t635)).setCell ⟨gb638, 2, none⟩ (.int .u64 t636)) = w65 at n0_ n1_ n2_ n3_ ⊢
                                        have BK630 := n0_
                                        have BK632 := n1_
                                        have BK638 := n2_
                                        have HB := n3_
                                        clear n0_ n1_ n2_ n3_
                                        have p640 : 0 ≤ ((ji17) : Int) := of_decide_eq_true (by first | (with_reducible assumption) | assumption)
                                        have q640 : (ji17) < (l0_5.length : Int) := of_decide_eq_true (by first | (with_reducible assumption) | assumption)
                                        obtain ⟨ad640, e640, hx640_0, hx640_1⟩ := at_T31 HR0_5.out (ji17) p640 q640
                                        obtain rfl : ad639 = ad640 := (by injection e640)
                                        replace hx640_0 := (HB.out.cell (World.block_lt_of_cell? w _ hx640_0)).trans hx640_0
                                        replace hx640_1 := (HB.out.cell (World.block_lt_of_cell? w _ hx640_1)).trans hx640_1
                                        replace p640 := eq_true p640
                                        replace q640 := eq_true q640
                                        have q66 : ((ji17) : Int) ≤ ((l0_5.length : Int) : Int) := of_decide_eq_true (by first | (with_reducible assumption) | assumption)
                                        obtain ⟨i066, hi066, _, hsz66, _⟩ := info_parts info31
                                        have hroom66 : l0_5.length ≤ c0_5 := HC0_5.out
                                        have hC66 : Kd.C k31 _ (some ad639) l0_5.length l0_5 := HR0_5.out
                                        have hcut66 := cut_to (P := Try.prog) 25 31 .i64 Try.underlying25 hi066 (some ad639) l0_5.length c0_5 (ji17) (of_decide_eq_true (by first | (with_reducible assumption) | assumption)) q66 hroom66
                                        have hr66 := Kd.C_take (m := ((ji17) : Int).toNat) hC66 (by omega)
                                        have hy66 : y641.length = ((ji17) : Int).toNat := (by rw [Ny641.out, List.length_take]; omega)
                                        rw [← Ny641.out] at hr66
                                        rw [← hy66] at hcut66
                                        have HR644 := Aside0.mk hr66
                                        have HC644 := Aside0.mk (show y641.length ≤ c0_5 from by omega)
                                        clear hr66 hC66 hroom66 hi066 hsz66
                                        have KY66 := Aside0.mk hy66
                                        clear hy66
                                        replace q66 := eq_true q66
                                        try go_wp2_with (first | ((with_reducible refine gate_builtin (b := .append) (xs := #[.tmp 68, .tmp 71]) rfl ?_); (try (refine gate_guard (by rfl) ?_; dsimp only)); at_builtin; refine Kd.R_append_rows k31 (w0 := w) w.heap.size rfl (.tmp 68) (.tmp 71) 25 31 (.agg #[(.int .u64 0), (.int .u64 0)]) 16 rfl Try.underlying25 info31 rfl (by decide) (by omega) (.slice none 0 0) ([] : List (S31)) y641 _ _ _ (fun _ => True) (fun _ => False) rfl rfl ?aO ?aR (fun _ _ h => h) (fun _ h => h.elim) ?aF ?aB ?aS ?aL ?_; (case aR => repeat (first | exact (Kd.C_below HR644.out HB.out) | (with_reducible refine Kd.C_alloc ?_ _) | (with_reducible refine Kd.C_drewN ?_ _) | (with_reducible refine Kd.C_drew ?_))); (case aB => exact (bw HB)); (case aF => exact (fun _ _ => trivial)); (case aO => exact ((Kd.R_nil _ _ _ _ (fun _ => True)))); (case aS => exact (below_size (bw HB))); (case aL => have := LMc34.out; omega); intro v646 w67 ho hb hg hat; rw [← Ny645.out] at ho; have n0_ := Aside0.mk (blk_grown (g := gb630) (o := .cells #[.int .i64 a0_0, .int .u64 a0_1, .int .u64 a0_2, .int .u64 a0_3, .int .u64 a0_4, .slice (some ad639) l0_5.length c0_5, .int .i64 a0_6, .int .u64 a0_7] 55 (0, 0)) (bk BK630) hg (by simp [Value.ownBlock])); have n1_ := Aside0.mk (blk_grown (g := gb632) (o := .cells #[.int .i64 a0_0, .int .u64 a0_1, .int .u64 a0_2, .int .u64 a0_3, .int .u64 a0_4] 24 (0, 0)) (bk BK632) hg (by simp [Value.ownBlock])); have n2_ := Aside0.mk (blk_grown (g := gb638) (o := .cells #[.int .u64 t634, .int .u64 t635, .int .u64 t636] 40 (0, 0)) (bk BK638) hg (by simp [Value.ownBlock])); have n3_ := Aside0.mk (hb); have n4_ := Aside0.mk (ho); clear BK630; clear BK632; clear BK638; clear HB; have BK630 := n0_; have BK632 := n1_; have BK638 := n2_; have HB := n3_; have HO647 := n4_; clear n0_ n1_ n2_ n3_ n4_; clear ho hb hg hat; have p648 : 0 ≤ ((ji17) : Int) := of_decide_eq_true (by first | (with_reducible assumption) | assumption); have q648 : (ji17) < (l0_5.length : Int) := of_decide_eq_true (by first | (with_reducible assumption) | assumption); obtain ⟨ad648, e648, hx648_0, hx648_1⟩ := at_T31 HR0_5.out (ji17) p648 q648; obtain rfl : ad639 = ad648 := (by injection e648); replace hx648_0 := (HB.out.cell (World.block_lt_of_cell? w _ hx648_0)).trans hx648_0; replace hx648_1 := (HB.out.cell (World.block_lt_of_cell? w _ hx648_1)).trans hx648_1; replace p648 := eq_true p648; replace q648 := eq_true q648) | ((with_reducible refine gate_builtin (b := .append) (xs := #[.tmp 73, .tmp 81]) rfl ?_); (try (refine gate_guard (by rfl) ?_; dsimp only)); at_builtin; refine Kd.R_append k31 (w0 := w) w.heap.size rfl (.tmp 73) (.tmp 81) 25 31 (.agg #[(.int .u64 0), (.int .u64 0)]) 16 rfl Try.underlying25 info31 rfl (by decide) (by omega) v646 y645 (⟨(rd_T31 l0_5 (ji17)).f0, IntKind.u64.wrap (1 + (Int.tmod a0_7 (IntKind.u64.wrap (((rd_T31 l0_5 (ji17)).f1) - 1))))⟩ : S31) [.int .u64 ((rd_T31 l0_5 (ji17)).f0), .int .u64 (IntKind.u64.wrap (1 + (Int.tmod a0_7 (IntKind.u64.wrap (((rd_T31 l0_5 (ji17)).f1) - 1)))))] (fun _ => True) (fun _ => False) rfl rfl ?aP (fun _ hk => hk.elim) ?aF ?aO ?aB ?aS ?aL ?_; (case aP => exact k31_mkM _ _ _ (⟨(rd_T31 l0_5 (ji17)).f0, IntKind.u64.wrap (1 + (Int.tmod a0_7 (IntKind.u64.wrap (((rd_T31 l0_5 (ji17)).f1) - 1))))⟩ : S31)); (case aB => exact (bw HB)); (case aF => exact (fun _ _ => trivial)); (case aO => exact (by (with_reducible repeat (first | apply Kd.R_alloc | apply Kd.R_drewN | apply Kd.R_drew)); exact HO647.out)); (case aS => exact (below_size (bw HB))); (case aL => have := LMc35.out; omega); intro v650 w68 ho hb hg hat; rw [← Ny649.out] at ho; have n0_ := Aside0.mk (blk_grown (g := gb630) (o := .cells #[.int .i64 a0_0, .int .u64 a0_1, .int .u64 a0_2, .int .u64 a0_3, .int .u64 a0_4, .slice (some ad639) l0_5.length c0_5, .int .i64 a0_6, .int .u64 a0_7] 55 (0, 0)) (bk BK630) hg (Kd.R_ne HO647.out BK630.out (by decide))); have n1_ := Aside0.mk (blk_grown (g := gb632) (o := .cells #[.int .i64 a0_0, .int .u64 a0_1, .int .u64 a0_2, .int .u64 a0_3, .int .u64 a0_4] 24 (0, 0)) (bk BK632) hg (Kd.R_ne HO647.out BK632.out (by decide))); have n2_ := Aside0.mk (blk_grown (g := gb638) (o := .cells #[.int .u64 t634, .int .u64 t635, .int .u64 t636] 40 (0, 0)) (bk BK638) hg (Kd.R_ne HO647.out BK638.out (by decide))); have n3_ := Aside0.mk (hb); have n4_ := Aside0.mk (ho); clear BK630; clear BK632; clear BK638; clear HB; clear HO647; have BK630 := n0_; have BK632 := n1_; have BK638 := n2_; have HB := n3_; have HO651 := n4_; clear n0_ n1_ n2_ n3_ n4_; clear ho hb hg hat))
                                        have n0_ := Aside0.mk (Kd.R_drew HO651.out)
                                        have n1_ := Aside0.mk (blk_drew BK630.out)
                                        have n2_ := Aside0.mk (blk_drew BK632.out)
                                        have n3_ := Aside0.mk (blk_drew BK638.out)
                                        have n4_ := Aside0.mk (below_drew1 HB.out)
                                        clear HO651
                                        clear BK630
                                        clear BK632
                                        clear BK638
                                        clear HB
                                        have HO651 := n0_
                                        have BK630 := n1_
                                        have BK632 := n2_
                                        have BK638 := n3_
                                        have HB := n4_
                                        clear n0_ n1_ n2_ n3_ n4_
                                        have p652 : 0 ≤ ((ji17) : Int) := of_decide_eq_true (by first | (with_reducible assumption) | assumption)
                                        have q652 : (ji17) < (l0_5.length : Int) := of_decide_eq_true (by first | (with_reducible assumption) | assumption)
                                        obtain ⟨ad652, e652, hx652_0, hx652_1⟩ := at_T31 HR0_5.out (ji17) p652 q652
                                        have hw652_1 := hx652_1
                                        have hw652_0 := hx652_0
                                        obtain rfl : ad639 = ad652 := (by injection e652)
                                        replace hx652_0 := (HB.out.cell (World.block_lt_of_cell? w _ hx652_0)).trans hx652_0
                                        replace hx652_1 := (HB.out.cell (World.block_lt_of_cell? w _ hx652_1)).trans hx652_1
                                        replace p652 := eq_true p652
                                        replace q652 := eq_true q652
                                        have p653 : 0 ≤ ((ji17) : Int) := of_decide_eq_true (by first | (with_reducible assumption) | assumption)
                                        have q653 : (ji17) < (l0_5.length : Int) := of_decide_eq_true (by first | (with_reducible assumption) | assumption)
                                        obtain ⟨ad653, e653, hx653_0, hx653_1⟩ := at_T31 HR0_5.out (ji17) p653 q653
                                        have hw653_1 := hx653_1
                                        have hw653_0 := hx653_0
                                        obtain rfl : ad639 = ad653 := (by injection e653)
                                        replace hx653_0 := (HB.out.cell (World.block_lt_of_cell? w _ hx653_0)).trans hx653_0
                                        replace hx653_1 := (HB.out.cell (World.block_lt_of_cell? w _ hx653_1)).trans hx653_1
                                        replace p653 := eq_true p653
                                        replace q653 := eq_true q653
                                        refine start_ (n := 17) (S := fun w' => w'.cell? (ad639.add (((ji17)).toNat * 2)) = some (.int .u64 ((rd_T31 l0_5 (ji17)).f0)) ∧ w'.cell? ⟨(ad639.add (((ji17)).toNat * 2)).block, (ad639.add (((ji17)).toNat * 2)).off + 1, none⟩ = some (.int .u64 ((rd_T31 l0_5 (ji17)).f1)) ∧ w'.cell? (ad639.add (((ji17)).toNat * 2)) = some (.int .u64 ((rd_T31 l0_5 (ji17)).f0)) ∧ w'.cell? ⟨(ad639.add (((ji17)).toNat * 2)).block, (ad639.add (((ji17)).toNat * 2)).off + 1, none⟩ = some (.int .u64 ((rd_T31 l0_5 (ji17)).f1))) (ds := []) #[false, false, false, false, false, false, false, false, false, false, false, false, false, false, false, false, false] (by kernel_rfl) rfl rfl ⟨((HB.out.cell (World.block_lt_of_cell? w _ hw652_0)).trans hw652_0), ((HB.out.cell (World.block_lt_of_cell? w _ hw652_1)).trans hw652_1), ((HB.out.cell (World.block_lt_of_cell? w _ hw653_0)).trans hw653_0), ((HB.out.cell (World.block_lt_of_cell? w _ hw653_1)).trans hw653_1)⟩ (fun hHeld => ?_); refine with_tabW turnstilelaw24_AuditSplits.tab17 turnstilelaw24_AuditSplits.bits17 (fun HT_ HW_ => ?_)
                                        generalize w68.drew = w69 at HO651 BK630 BK632 BK638 HB hx652_0 hx652_1 hx653_0 hx653_1 hHeld ⊢
                                        refine chain_ (fuel := 3) [(0, 0, some 83), (1, 0, some 84), (2, 0, some 85), (3, 0, some 86), (4, 0, some 87), (6, 0, some 89), (7, 0, some 90), (8, 0, some 91), (9, 0, some 92), (11, 0, some 94), (5, 1, some 88), (10, 1, some 93), (12, 0, some 95), (13, 0, some 96)] #[true, true, true, true, true, true, true, true, true, true, true, true, true, true, false, false, false] HT_.out HW_.out (by kernel_rfl) (fun _ _ _ _ _ h => h) (Or.inr hHeld) rfl ?_
                                        (iterate 10 refine lkP ?_); (iterate 2 refine lkT ?_); (iterate 2 refine lkP ?_); refine .nil ?_
                                        refine one_ (i := 14) (N := some 97) #[true, true, true, true, true, true, true, true, true, true, true, true, true, true, true, false, false] rfl rfl (one_of HT_.out (by kernel_rfl)) (by decide) (fun K hK => ?_)
                                        refine value_ (w1 := ?_) (v := ?_) (by rfl) rfl ?_ ?_
                                        rotate_left 2
                                        · go_simp
                                          constructor
                                          · rfl
                                          · rfl
                                        refine hK.out _ _ ⟨(World.cell?_alloc_lt _ _ _ (World.block_lt_of_cell? _ _ (((HB.out.cell (World.block_lt_of_cell? w _ hw652_0)).trans hw652_0)))).trans (((HB.out.cell (World.block_lt_of_cell? w _ hw652_0)).trans hw652_0)), (World.cell?_alloc_lt _ _ _ (World.block_lt_of_cell? _ _ (((HB.out.cell (World.block_lt_of_cell? w _ hw652_1)).trans hw652_1)))).trans (((HB.out.cell (World.block_lt_of_cell? w _ hw652_1)).trans hw652_1)), (World.cell?_alloc_lt _ _ _ (World.block_lt_of_cell? _ _ (((HB.out.cell (World.block_lt_of_cell? w _ hw653_0)).trans hw653_0)))).trans (((HB.out.cell (World.block_lt_of_cell? w _ hw653_0)).trans hw653_0)), (World.cell?_alloc_lt _ _ _ (World.block_lt_of_cell? _ _ (((HB.out.cell (World.block_lt_of_cell? w _ hw653_1)).trans hw653_1)))).trans (((HB.out.cell (World.block_lt_of_cell? w _ hw653_1)).trans hw653_1))⟩ (fun hHeld => ?_)
                                        clear hK K
                                        refine norm_ (a' := ?_) ?_ ?_
                                        rotate_left
                                        · show Act.put _ (some 97) _ = _
                                          simp only [Act.put, List.setIfInBounds_toArray, List.set_cons_zero, List.set_cons_succ, i64_w, i32_w]
                                          rfl
                                        refine one_ (i := 15) (N := some 98) #[true, true, true, true, true, true, true, true, true, true, true, true, true, true, true, true, false] rfl rfl (one_of HT_.out (by kernel_rfl)) (by decide) (fun K hK => ?_)
                                        refine Kd.R_append_step k31 (w0 := w) w.heap.size (by rfl) (.tmp 83) (.tmp 97) 25 31 (.agg #[(.int .u64 0), (.int .u64 0)]) 16 rfl Try.underlying25 info31 rfl (by decide) (by omega) v650 y649 (⟨(rd_T31 l0_5 (ji17)).f0, IntKind.u64.wrap (((rd_T31 l0_5 (ji17)).f1) - (IntKind.u64.wrap (1 + (Int.tmod a0_7 (IntKind.u64.wrap (((rd_T31 l0_5 (ji17)).f1) - 1))))))⟩ : S31) [.int .u64 ((rd_T31 l0_5 (ji17)).f0), .int .u64 (IntKind.u64.wrap (((rd_T31 l0_5 (ji17)).f1) - (IntKind.u64.wrap (1 + (Int.tmod a0_7 (IntKind.u64.wrap (((rd_T31 l0_5 (ji17)).f1) - 1)))))))] (fun _ => True) (fun _ => False) rfl rfl ?aP (fun _ hk => hk.elim) ?aF ?aO ?aB ?aS ?aL ?_
                                        (case aP => exact k31_mkM _ _ _ (⟨(rd_T31 l0_5 (ji17)).f0, IntKind.u64.wrap (((rd_T31 l0_5 (ji17)).f1) - (IntKind.u64.wrap (1 + (Int.tmod a0_7 (IntKind.u64.wrap (((rd_T31 l0_5 (ji17)).f1) - 1))))))⟩ : S31))
                                        (case aB => exact (bw HB))
                                        (case aF => exact (fun _ _ => trivial))
                                        (case aO => exact (by (with_reducible repeat (first | apply Kd.R_alloc | apply Kd.R_drewN | apply Kd.R_drew)); exact HO651.out))
                                        (case aS => exact (below_size (bw HB)))
                                        (case aL => have := LMc36.out; omega)
                                        intro v655 w70 ho hb hg hat
                                        rw [← Ny654.out] at ho
                                        have n0_ := Aside0.mk (blk_grown (g := gb630) (o := .cells #[.int .i64 a0_0, .int .u64 a0_1, .int .u64 a0_2, .int .u64 a0_3, .int .u64 a0_4, .slice (some ad639) l0_5.length c0_5, .int .i64 a0_6, .int .u64 a0_7] 55 (0, 0)) (bk BK630) hg (Kd.R_ne HO651.out BK630.out (by decide)))
                                        have n1_ := Aside0.mk (blk_grown (g := gb632) (o := .cells #[.int .i64 a0_0, .int .u64 a0_1, .int .u64 a0_2, .int .u64 a0_3, .int .u64 a0_4] 24 (0, 0)) (bk BK632) hg (Kd.R_ne HO651.out BK632.out (by decide)))
                                        have n2_ := Aside0.mk (blk_grown (g := gb638) (o := .cells #[.int .u64 t634, .int .u64 t635, .int .u64 t636] 40 (0, 0)) (bk BK638) hg (Kd.R_ne HO651.out BK638.out (by decide)))
                                        have n3_ := Aside0.mk (hb)
                                        have n4_ := Aside0.mk (ho)
                                        clear BK630
                                        clear BK632
                                        clear BK638
                                        clear HB
                                        clear HO651
                                        have BK630 := n0_
                                        have BK632 := n1_
                                        have BK638 := n2_
                                        have HB := n3_
                                        have HO656 := n4_
                                        clear n0_ n1_ n2_ n3_ n4_
                                        clear ho hb hg hat
                                        refine hK.out _ _ ⟨((HB.out.cell (World.block_lt_of_cell? w _ hw652_0)).trans hw652_0), ((HB.out.cell (World.block_lt_of_cell? w _ hw652_1)).trans hw652_1), ((HB.out.cell (World.block_lt_of_cell? w _ hw653_0)).trans hw653_0), ((HB.out.cell (World.block_lt_of_cell? w _ hw653_1)).trans hw653_1)⟩ (fun hHeld => ?_)
                                        clear hK K
                                        refine norm_ (a' := ?_) ?_ ?_
                                        rotate_left
                                        · show Act.put _ (some 98) _ = _
                                          simp only [Act.put, List.setIfInBounds_toArray, List.set_cons_zero, List.set_cons_succ, i64_w, i32_w]
                                          rfl
                                        refine chain_ (fuel := 0) [(16, 0, some 12)] #[true, true, true, true, true, true, true, true, true, true, true, true, true, true, true, true, true] HT_.out HW_.out (by kernel_rfl) (fun _ _ _ _ _ h => h) (Or.inl (by decide)) rfl ?_
                                        refine lkP ?_; refine .nil ?_
                                        refine done_ (done_of HT_.out (by kernel_rfl)) ?_
                                        have q71 : ((ji37) : Int) ≤ ((l0_5.length : Int) : Int) := of_decide_eq_true (by first | (with_reducible assumption) | assumption)
                                        obtain ⟨i071, hi071, _, hsz71, _⟩ := info_parts info31
                                        have hroom71 : l0_5.length ≤ c0_5 := HC0_5.out
                                        have hC71 : Kd.C k31 _ (some ad639) l0_5.length l0_5 := HR0_5.out
                                        have q071 : (0 : Int) ≤ ((ji37) : Int) := of_decide_eq_true (by first | (with_reducible assumption) | assumption)
                                        have hcut71 := cut_from (P := Try.prog) 25 31 .i64 Try.underlying25 hi071 2 hsz71 (some ad639) l0_5.length c0_5 (ji37) q071 q71
                                        have hr71 := Kd.C_drop (m := ((ji37) : Int).toNat) (c := c0_5) hC71 (by omega) hroom71
                                        obtain ⟨A71, hA71⟩ : ∃ A1, A1 = (if c0_5 = ((ji37) : Int).toNat then (some ad639) else ((some ad639) : Option Addr).map (·.add (((ji37) : Int).toNat * 2))) := ⟨_, rfl⟩
                                        obtain ⟨c71, hc71⟩ : ∃ c1, c1 = c0_5 - ((ji37) : Int).toNat := ⟨_, rfl⟩
                                        have hy71 : y657.length = l0_5.length - ((ji37) : Int).toNat := (by rw [Ny657.out, List.length_drop] <;> omega)
                                        rw [show (l0_5).drop ((ji37) : Int).toNat = y657 from Ny657.out.symm] at hr71
                                        replace hr71 : Kd.C k31 _ A71 y657.length y657 := (by rw [hA71]; exact hr71)
                                        rw [← hy71, ← hA71, ← hc71] at hcut71
                                        have HR660 := Aside0.mk hr71
                                        have HC660 := Aside0.mk (show y657.length ≤ c71 from by rw [hy71, hc71]; exact Nat.sub_le_sub_right hroom71 _)
                                        clear hr71 hC71 hroom71 hi071 hsz71 hc71
                                        have KY71 := Aside0.mk hy71
                                        have KA71 := Aside0.mk hA71
                                        clear hy71 hA71
                                        replace q71 := eq_true q71
                                        try go_wp2_with (first | ((with_reducible refine gate_builtin (b := .append) (xs := #[.tmp 99, .tmp 103]) rfl ?_); (try (refine gate_guard (by rfl) ?_; dsimp only)); at_builtin; refine Kd.R_append_rows k31 (w0 := w) w.heap.size rfl (.tmp 99) (.tmp 103) 25 31 (.agg #[(.int .u64 0), (.int .u64 0)]) 16 rfl Try.underlying25 info31 rfl (by decide) (by omega) v655 y654 y657 _ _ _ (fun _ => True) (fun _ => False) rfl rfl ?aO ?aR (fun _ _ h => h) (fun _ h => h.elim) ?aF ?aB ?aS ?aL ?_; (case aR => repeat (first | exact (Kd.C_below HR660.out HB.out) | (with_reducible refine Kd.C_alloc ?_ _) | (with_reducible refine Kd.C_drewN ?_ _) | (with_reducible refine Kd.C_drew ?_))); (case aB => exact (bw HB)); (case aF => exact (fun _ _ => trivial)); (case aO => exact (by (with_reducible repeat (first | apply Kd.R_alloc | apply Kd.R_drewN | apply Kd.R_drew)); exact HO656.out)); (case aS => exact (below_size (bw HB))); (case aL => have := LMc40.out; omega); intro v662 w72 ho hb hg hat; rw [← Ny661.out] at ho; have n0_ := Aside0.mk (blk_grown (g := gb630) (o := .cells #[.int .i64 a0_0, .int .u64 a0_1, .int .u64 a0_2, .int .u64 a0_3, .int .u64 a0_4, .slice (some ad639) l0_5.length c0_5, .int .i64 a0_6, .int .u64 a0_7] 55 (0, 0)) (bk BK630) hg (Kd.R_ne HO656.out BK630.out (by decide))); have n1_ := Aside0.mk (blk_grown (g := gb632) (o := .cells #[.int .i64 a0_0, .int .u64 a0_1, .int .u64 a0_2, .int .u64 a0_3, .int .u64 a0_4] 24 (0, 0)) (bk BK632) hg (Kd.R_ne HO656.out BK632.out (by decide))); have n2_ := Aside0.mk (blk_grown (g := gb638) (o := .cells #[.int .u64 t634, .int .u64 t635, .int .u64 t636] 40 (0, 0)) (bk BK638) hg (Kd.R_ne HO656.out BK638.out (by decide))); have n3_ := Aside0.mk (hb); have n4_ := Aside0.mk (ho); clear BK630; clear BK632; clear BK638; clear HB; clear HO656; have BK630 := n0_; have BK632 := n1_; have BK638 := n2_; have HB := n3_; have HO663 := n4_; clear n0_ n1_ n2_ n3_ n4_; clear ho hb hg hat; have hnb73 := NB632_630.out; have hnc73 := NB630_632.out; have hnb74 := NB632_638.out; have hnc74 := NB638_632.out; obtain ⟨hcz75_0, hcz75_1, hcz75_2, hcz75_3, hcz75_4, hfz75_0, hfz75_1, hfz75_2, hfz75_3, hfz75_4⟩ := bc5 BK632; obtain ⟨Ao76, co76, eo76⟩ := Kd.R_slice HO663.out; subst eo76) | ((with_reducible refine gate_callee (f := 17) rfl ?_); refine gl (some 108) Try.func17 #[.agg #[.int .i64 a0_0, .int .u64 a0_1, .int .u64 a0_2, .int .u64 a0_3, .int .u64 a0_4], .slice Ao76 y661.length co76] ?_; (with_reducible refine (audit_Level.calls kj3 a0_0 a0_1 a0_2 a0_3 a0_4 _ _ y661 t664 t665 t666 t667 _ ?side1 ?side2 A41.out).mono ?_); (case side1 => repeat (first | exact (Kd.R_reads' HO663.out).2.2 | (with_reducible refine Kd.C_alloc ?_ _) | (with_reducible refine Kd.C_drewN ?_ _) | (with_reducible refine Kd.C_drew ?_))); (case side2 => exact (Kd.R_reads' HO663.out).2.1); rintro e w77 ⟨rfl, hb⟩; refine ⟨_, rfl, ?_⟩; have n0_ := Aside0.mk (Kd.R_below (by (with_reducible repeat (first | apply Kd.R_alloc | apply Kd.R_drewN | apply Kd.R_drew)); exact HO663.out) hb); have n1_ := bb BK630 hb; have n2_ := bb BK632 hb; have n3_ := bb BK638 hb; have n4_ := bs HB hb; clear HO663; clear BK630; clear BK632; clear BK638; clear HB; have HO663 := n0_; have BK630 := n1_; have BK632 := n2_; have BK638 := n3_; have HB := n4_; clear n0_ n1_ n2_ n3_ n4_; (try clear hb); (try clear hb2); (try clear hk); (try clear hi)) | ((with_reducible refine gate_dst (N := 13) rfl ?_); (try (refine gate_guard (by rfl) ?_; dsimp only)); refine bx 13 #[.int .u64 0, .int .u64 0, .int .u64 0] 40 ?_; intro gb668 hg w78 hbox hb; have n0_ := Aside0.mk (Kd.R_below (by (with_reducible repeat (first | apply Kd.R_alloc | apply Kd.R_drewN | apply Kd.R_drew)); exact HO663.out) hb); have n1_ := bb BK630 hb; have n2_ := bb BK632 hb; have n3_ := bb BK638 hb; have n4_ := bs HB hb; have n5_ := Aside0.mk (hbox); have n6_ := sz HB hg; have n7_ := sz HB hg; have n8_ := nl BK630 hg; have n9_ := nr BK630 hg; have n10_ := nl BK632 hg; have n11_ := nr BK632 hg; have n12_ := nl BK638 hg; have n13_ := nr BK638 hg; clear HO663; clear BK630; clear BK632; clear BK638; clear HB; have HO663 := n0_; have BK630 := n1_; have BK632 := n2_; have BK638 := n3_; have HB := n4_; have BK668 := n5_; have GW668 := n6_; have GE668 := n7_; have NB630_668 := n8_; have NB668_630 := n9_; have NB632_668 := n10_; have NB668_632 := n11_; have NB638_668 := n12_; have NB668_638 := n13_; clear n0_ n1_ n2_ n3_ n4_ n5_ n6_ n7_ n8_ n9_ n10_ n11_ n12_ n13_; clear hb hbox hg; have hnb79 := NB668_630.out; have hnc79 := NB630_668.out; have hnb80 := NB668_632.out; have hnc80 := NB632_668.out; have hnb81 := NB668_638.out; have hnc81 := NB638_668.out; obtain ⟨hcz82_0, hcz82_1, hcz82_2, hfz82_0, hfz82_1, hfz82_2⟩ := bc3 BK668; obtain ⟨hcz83_0, hcz83_1, hcz83_2, hcz83_3, hcz83_4, hfz83_0, hfz83_1, hfz83_2, hfz83_3, hfz83_4⟩ := bc5 BK632) | ((with_reducible refine gate_callee (f := 12) rfl ?_); refine gl (some 113) Try.func12 #[.agg #[.int .i64 a0_0, .int .u64 a0_1, .int .u64 a0_2, .int .u64 a0_3, .int .u64 a0_4], .slice Ao76 y661.length co76] ?_; (with_reducible refine (audit_Conforms.calls kj3 a0_0 a0_1 a0_2 a0_3 a0_4 _ _ y661 t669 _ ?side1 ?side2 A42.out).mono ?_); (case side1 => refine (Kd.R_reads' (e := 31) (base := w.heap.size) (ok := fun k_ => True) (n := y661.length) (c := co76) ?_).2.2; exact (by (with_reducible repeat (first | apply Kd.R_alloc | apply Kd.R_drewN | apply Kd.R_drew)); exact (Kd.R_mono (Kd.R_far (p := ⟨gb668, 2, none⟩) (Kd.R_far (p := ⟨gb668, 1, none⟩) (Kd.R_far (p := ⟨gb668, 0, none⟩) (Kd.R_types HO663.out BK668.out (by decide)) (fun _ hk => hk.2) (.int .u64 t664)) (fun _ hk => hk.2) (.int .u64 t665)) (fun _ hk => hk.2) (.int .u64 t666)) (fun _ h_ => h_.1)))); (case side2 => exact (Kd.R_reads' HO663.out).2.1); rintro e w84 ⟨rfl, hb⟩; refine ⟨_, rfl, ?_⟩; have n0_ := Aside0.mk (Kd.R_below (by (with_reducible repeat (first | apply Kd.R_alloc | apply Kd.R_drewN | apply Kd.R_drew)); exact (Kd.R_mono (Kd.R_far (p := ⟨gb668, 2, none⟩) (Kd.R_far (p := ⟨gb668, 1, none⟩) (Kd.R_far (p := ⟨gb668, 0, none⟩) (Kd.R_types HO663.out BK668.out (by decide)) (fun _ hk => hk.2) (.int .u64 t664)) (fun _ hk => hk.2) (.int .u64 t665)) (fun _ hk => hk.2) (.int .u64 t666)) (fun _ h_ => h_.1))) hb); have n1_ := bb BK630 hb; have n2_ := bb BK632 hb; have n3_ := bb BK638 hb; have n4_ := bbp (.cells #[.int .u64 t664, .int .u64 t665, .int .u64 t666] 40 (0, 0)) BK668 hb; have n5_ := bs HB hb; clear HO663; clear BK630; clear BK632; clear BK638; clear BK668; clear HB; have HO663 := n0_; have BK630 := n1_; have BK632 := n2_; have BK638 := n3_; have BK668 := n4_; have HB := n5_; clear n0_ n1_ n2_ n3_ n4_ n5_; (try clear hb); (try clear hb2); (try clear hk); (try clear hi); obtain ⟨hcz85_0, hcz85_1, hcz85_2, hfz85_0, hfz85_1, hfz85_2⟩ := bc3 BK668; have hnb86 := NB638_630.out; have hnc86 := NB630_638.out; obtain ⟨hcz87_0, hcz87_1, hcz87_2, hfz87_0, hfz87_1, hfz87_2⟩ := bc3 BK638))
                                        go_ret
                                        exact ⟨by first | rfl | (simp [errW_none, errW_some] <;> rfl) | (simp only [← hji17, ← hji37]; first | rfl | (simp [errW_none, errW_some] <;> rfl)) | (simp [*, errW_none, errW_some] <;> rfl), bw HB⟩
                                      · rw [if_neg c64] at H
                                        have c64b0 : (!(t664 == t634) || (!(t665 == t635) || (!(t666 == t636)))) = false := by simpa using c64
                                        clear c64
                                        by_cases c88 : (t667 != t637) = true
                                        · rw [if_pos c88] at H
                                          have c88b0 : (t667 != t637) = true := c88
                                          (try (have c88b1 : decide (t667 = t637) = false := by simpa using c88))
                                          (try (have c88b2 : (t667 == t637) = false := by simpa using c88))
                                          (try (have c88b3 : ¬ (t667 = t637) := by simpa using c88))
                                          clear c88
                                          obtain rfl := Option.some.inj H
                                          have n0_ : Aside0 ((((w26.setCell ⟨gb638, 0, none⟩ (.int .u64 t634)).setCell ⟨gb638, 1, none⟩ (.int .u64 t635)).setCell ⟨gb638, 2, none⟩ (.int .u64 t636)).heap[gb630]? = some (.cells #[.int .i64 a0_0, .int .u64 a0_1, .int .u64 a0_2, .int .u64 a0_3, .int .u64 a0_4, .slice (some ad639) l0_5.length c0_5, .int .i64 a0_6, .int .u64 a0_7] 55 (0, 0))) := ⟨bk BK630⟩
                                          have n1_ : Aside0 ((((w26.setCell ⟨gb638, 0, none⟩ (.int .u64 t634)).setCell ⟨gb638, 1, none⟩ (.int .u64 t635)).setCell ⟨gb638, 2, none⟩ (.int .u64 t636)).heap[gb632]? = some (.cells #[.int .i64 a0_0, .int .u64 a0_1, .int .u64 a0_2, .int .u64 a0_3, .int .u64 a0_4] 24 (0, 0))) := ⟨bk BK632⟩
                                          have n2_ : Aside0 ((((w26.setCell ⟨gb638, 0, none⟩ (.int .u64 t634)).setCell ⟨gb638, 1, none⟩ (.int .u64 t635)).setCell ⟨gb638, 2, none⟩ (.int .u64 t636)).heap[gb638]? = some (.cells #[.int .u64 t634, .int .u64 t635, .int .u64 t636] 40 (0, 0))) := ⟨bk BK638⟩
                                          have n3_ : Aside0 (Below w.heap.size w (((w26.setCell ⟨gb638, 0, none⟩ (.int .u64 t634)).setCell ⟨gb638, 1, none⟩ (.int .u64 t635)).setCell ⟨gb638, 2, none⟩ (.int .u64 t636))) := ⟨bw HB⟩
                                          (try clear BK630)
                                          (try clear BK632)
                                          (try clear BK638)
                                          (try clear HB)
                                          generalize (((w26.setCell ⟨gb638, 0, none⟩ (.int .u64 t634)).setCell ⟨gb638, 1, none⟩ (.int .u64 t635)).setCell ⟨gb638, 2, none⟩ (.int .u64 t636)) = w89 at n0_ n1_ n2_ n3_ ⊢
                                          have BK630 := n0_
                                          have BK632 := n1_
                                          have BK638 := n2_
                                          have HB := n3_
                                          clear n0_ n1_ n2_ n3_
                                          have p640 : 0 ≤ ((ji17) : Int) := of_decide_eq_true (by first | (with_reducible assumption) | assumption)
                                          have q640 : (ji17) < (l0_5.length : Int) := of_decide_eq_true (by first | (with_reducible assumption) | assumption)
                                          obtain ⟨ad640, e640, hx640_0, hx640_1⟩ := at_T31 HR0_5.out (ji17) p640 q640
                                          obtain rfl : ad639 = ad640 := (by injection e640)
                                          replace hx640_0 := (HB.out.cell (World.block_lt_of_cell? w _ hx640_0)).trans hx640_0
                                          replace hx640_1 := (HB.out.cell (World.block_lt_of_cell? w _ hx640_1)).trans hx640_1
                                          replace p640 := eq_true p640
                                          replace q640 := eq_true q640
                                          have q90 : ((ji17) : Int) ≤ ((l0_5.length : Int) : Int) := of_decide_eq_true (by first | (with_reducible assumption) | assumption)
                                          obtain ⟨i090, hi090, _, hsz90, _⟩ := info_parts info31
                                          have hroom90 : l0_5.length ≤ c0_5 := HC0_5.out
                                          have hC90 : Kd.C k31 _ (some ad639) l0_5.length l0_5 := HR0_5.out
                                          have hcut90 := cut_to (P := Try.prog) 25 31 .i64 Try.underlying25 hi090 (some ad639) l0_5.length c0_5 (ji17) (of_decide_eq_true (by first | (with_reducible assumption) | assumption)) q90 hroom90
                                          have hr90 := Kd.C_take (m := ((ji17) : Int).toNat) hC90 (by omega)
                                          have hy90 : y641.length = ((ji17) : Int).toNat := (by rw [Ny641.out, List.length_take]; omega)
                                          rw [← Ny641.out] at hr90
                                          rw [← hy90] at hcut90
                                          have HR644 := Aside0.mk hr90
                                          have HC644 := Aside0.mk (show y641.length ≤ c0_5 from by omega)
                                          clear hr90 hC90 hroom90 hi090 hsz90
                                          have KY90 := Aside0.mk hy90
                                          clear hy90
                                          replace q90 := eq_true q90
                                          try go_wp2_with (first | ((with_reducible refine gate_builtin (b := .append) (xs := #[.tmp 68, .tmp 71]) rfl ?_); (try (refine gate_guard (by rfl) ?_; dsimp only)); at_builtin; refine Kd.R_append_rows k31 (w0 := w) w.heap.size rfl (.tmp 68) (.tmp 71) 25 31 (.agg #[(.int .u64 0), (.int .u64 0)]) 16 rfl Try.underlying25 info31 rfl (by decide) (by omega) (.slice none 0 0) ([] : List (S31)) y641 _ _ _ (fun _ => True) (fun _ => False) rfl rfl ?aO ?aR (fun _ _ h => h) (fun _ h => h.elim) ?aF ?aB ?aS ?aL ?_; (case aR => repeat (first | exact (Kd.C_below HR644.out HB.out) | (with_reducible refine Kd.C_alloc ?_ _) | (with_reducible refine Kd.C_drewN ?_ _) | (with_reducible refine Kd.C_drew ?_))); (case aB => exact (bw HB)); (case aF => exact (fun _ _ => trivial)); (case aO => exact ((Kd.R_nil _ _ _ _ (fun _ => True)))); (case aS => exact (below_size (bw HB))); (case aL => have := LMc34.out; omega); intro v646 w91 ho hb hg hat; rw [← Ny645.out] at ho; have n0_ := Aside0.mk (blk_grown (g := gb630) (o := .cells #[.int .i64 a0_0, .int .u64 a0_1, .int .u64 a0_2, .int .u64 a0_3, .int .u64 a0_4, .slice (some ad639) l0_5.length c0_5, .int .i64 a0_6, .int .u64 a0_7] 55 (0, 0)) (bk BK630) hg (by simp [Value.ownBlock])); have n1_ := Aside0.mk (blk_grown (g := gb632) (o := .cells #[.int .i64 a0_0, .int .u64 a0_1, .int .u64 a0_2, .int .u64 a0_3, .int .u64 a0_4] 24 (0, 0)) (bk BK632) hg (by simp [Value.ownBlock])); have n2_ := Aside0.mk (blk_grown (g := gb638) (o := .cells #[.int .u64 t634, .int .u64 t635, .int .u64 t636] 40 (0, 0)) (bk BK638) hg (by simp [Value.ownBlock])); have n3_ := Aside0.mk (hb); have n4_ := Aside0.mk (ho); clear BK630; clear BK632; clear BK638; clear HB; have BK630 := n0_; have BK632 := n1_; have BK638 := n2_; have HB := n3_; have HO647 := n4_; clear n0_ n1_ n2_ n3_ n4_; clear ho hb hg hat; have p648 : 0 ≤ ((ji17) : Int) := of_decide_eq_true (by first | (with_reducible assumption) | assumption); have q648 : (ji17) < (l0_5.length : Int) := of_decide_eq_true (by first | (with_reducible assumption) | assumption); obtain ⟨ad648, e648, hx648_0, hx648_1⟩ := at_T31 HR0_5.out (ji17) p648 q648; obtain rfl : ad639 = ad648 := (by injection e648); replace hx648_0 := (HB.out.cell (World.block_lt_of_cell? w _ hx648_0)).trans hx648_0; replace hx648_1 := (HB.out.cell (World.block_lt_of_cell? w _ hx648_1)).trans hx648_1; replace p648 := eq_true p648; replace q648 := eq_true q648) | ((with_reducible refine gate_builtin (b := .append) (xs := #[.tmp 73, .tmp 81]) rfl ?_); (try (refine gate_guard (by rfl) ?_; dsimp only)); at_builtin; refine Kd.R_append k31 (w0 := w) w.heap.size rfl (.tmp 73) (.tmp 81) 25 31 (.agg #[(.int .u64 0), (.int .u64 0)]) 16 rfl Try.underlying25 info31 rfl (by decide) (by omega) v646 y645 (⟨(rd_T31 l0_5 (ji17)).f0, IntKind.u64.wrap (1 + (Int.tmod a0_7 (IntKind.u64.wrap (((rd_T31 l0_5 (ji17)).f1) - 1))))⟩ : S31) [.int .u64 ((rd_T31 l0_5 (ji17)).f0), .int .u64 (IntKind.u64.wrap (1 + (Int.tmod a0_7 (IntKind.u64.wrap (((rd_T31 l0_5 (ji17)).f1) - 1)))))] (fun _ => True) (fun _ => False) rfl rfl ?aP (fun _ hk => hk.elim) ?aF ?aO ?aB ?aS ?aL ?_; (case aP => exact k31_mkM _ _ _ (⟨(rd_T31 l0_5 (ji17)).f0, IntKind.u64.wrap (1 + (Int.tmod a0_7 (IntKind.u64.wrap (((rd_T31 l0_5 (ji17)).f1) - 1))))⟩ : S31)); (case aB => exact (bw HB)); (case aF => exact (fun _ _ => trivial)); (case aO => exact (by (with_reducible repeat (first | apply Kd.R_alloc | apply Kd.R_drewN | apply Kd.R_drew)); exact HO647.out)); (case aS => exact (below_size (bw HB))); (case aL => have := LMc35.out; omega); intro v650 w92 ho hb hg hat; rw [← Ny649.out] at ho; have n0_ := Aside0.mk (blk_grown (g := gb630) (o := .cells #[.int .i64 a0_0, .int .u64 a0_1, .int .u64 a0_2, .int .u64 a0_3, .int .u64 a0_4, .slice (some ad639) l0_5.length c0_5, .int .i64 a0_6, .int .u64 a0_7] 55 (0, 0)) (bk BK630) hg (Kd.R_ne HO647.out BK630.out (by decide))); have n1_ := Aside0.mk (blk_grown (g := gb632) (o := .cells #[.int .i64 a0_0, .int .u64 a0_1, .int .u64 a0_2, .int .u64 a0_3, .int .u64 a0_4] 24 (0, 0)) (bk BK632) hg (Kd.R_ne HO647.out BK632.out (by decide))); have n2_ := Aside0.mk (blk_grown (g := gb638) (o := .cells #[.int .u64 t634, .int .u64 t635, .int .u64 t636] 40 (0, 0)) (bk BK638) hg (Kd.R_ne HO647.out BK638.out (by decide))); have n3_ := Aside0.mk (hb); have n4_ := Aside0.mk (ho); clear BK630; clear BK632; clear BK638; clear HB; clear HO647; have BK630 := n0_; have BK632 := n1_; have BK638 := n2_; have HB := n3_; have HO651 := n4_; clear n0_ n1_ n2_ n3_ n4_; clear ho hb hg hat))
                                          have n0_ := Aside0.mk (Kd.R_drew HO651.out)
                                          have n1_ := Aside0.mk (blk_drew BK630.out)
                                          have n2_ := Aside0.mk (blk_drew BK632.out)
                                          have n3_ := Aside0.mk (blk_drew BK638.out)
                                          have n4_ := Aside0.mk (below_drew1 HB.out)
                                          clear HO651
                                          clear BK630
                                          clear BK632
                                          clear BK638
                                          clear HB
                                          have HO651 := n0_
                                          have BK630 := n1_
                                          have BK632 := n2_
                                          have BK638 := n3_
                                          have HB := n4_
                                          clear n0_ n1_ n2_ n3_ n4_
                                          have p652 : 0 ≤ ((ji17) : Int) := of_decide_eq_true (by first | (with_reducible assumption) | assumption)
                                          have q652 : (ji17) < (l0_5.length : Int) := of_decide_eq_true (by first | (with_reducible assumption) | assumption)
                                          obtain ⟨ad652, e652, hx652_0, hx652_1⟩ := at_T31 HR0_5.out (ji17) p652 q652
                                          have hw652_1 := hx652_1
                                          have hw652_0 := hx652_0
                                          obtain rfl : ad639 = ad652 := (by injection e652)
                                          replace hx652_0 := (HB.out.cell (World.block_lt_of_cell? w _ hx652_0)).trans hx652_0
                                          replace hx652_1 := (HB.out.cell (World.block_lt_of_cell? w _ hx652_1)).trans hx652_1
                                          replace p652 := eq_true p652
                                          replace q652 := eq_true q652
                                          have p653 : 0 ≤ ((ji17) : Int) := of_decide_eq_true (by first | (with_reducible assumption) | assumption)
                                          have q653 : (ji17) < (l0_5.length : Int) := of_decide_eq_true (by first | (with_reducible assumption) | assumption)
                                          obtain ⟨ad653, e653, hx653_0, hx653_1⟩ := at_T31 HR0_5.out (ji17) p653 q653
                                          have hw653_1 := hx653_1
                                          have hw653_0 := hx653_0
                                          obtain rfl : ad639 = ad653 := (by injection e653)
                                          replace hx653_0 := (HB.out.cell (World.block_lt_of_cell? w _ hx653_0)).trans hx653_0
                                          replace hx653_1 := (HB.out.cell (World.block_lt_of_cell? w _ hx653_1)).trans hx653_1
                                          replace p653 := eq_true p653
                                          replace q653 := eq_true q653
                                          refine start_ (n := 17) (S := fun w' => w'.cell? (ad639.add (((ji17)).toNat * 2)) = some (.int .u64 ((rd_T31 l0_5 (ji17)).f0)) ∧ w'.cell? ⟨(ad639.add (((ji17)).toNat * 2)).block, (ad639.add (((ji17)).toNat * 2)).off + 1, none⟩ = some (.int .u64 ((rd_T31 l0_5 (ji17)).f1)) ∧ w'.cell? (ad639.add (((ji17)).toNat * 2)) = some (.int .u64 ((rd_T31 l0_5 (ji17)).f0)) ∧ w'.cell? ⟨(ad639.add (((ji17)).toNat * 2)).block, (ad639.add (((ji17)).toNat * 2)).off + 1, none⟩ = some (.int .u64 ((rd_T31 l0_5 (ji17)).f1))) (ds := []) #[false, false, false, false, false, false, false, false, false, false, false, false, false, false, false, false, false] (by kernel_rfl) rfl rfl ⟨((HB.out.cell (World.block_lt_of_cell? w _ hw652_0)).trans hw652_0), ((HB.out.cell (World.block_lt_of_cell? w _ hw652_1)).trans hw652_1), ((HB.out.cell (World.block_lt_of_cell? w _ hw653_0)).trans hw653_0), ((HB.out.cell (World.block_lt_of_cell? w _ hw653_1)).trans hw653_1)⟩ (fun hHeld => ?_); refine with_tabW turnstilelaw24_AuditSplits.tab17 turnstilelaw24_AuditSplits.bits17 (fun HT_ HW_ => ?_)
                                          generalize w92.drew = w93 at HO651 BK630 BK632 BK638 HB hx652_0 hx652_1 hx653_0 hx653_1 hHeld ⊢
                                          refine chain_ (fuel := 3) [(0, 0, some 83), (1, 0, some 84), (2, 0, some 85), (3, 0, some 86), (4, 0, some 87), (6, 0, some 89), (7, 0, some 90), (8, 0, some 91), (9, 0, some 92), (11, 0, some 94), (5, 1, some 88), (10, 1, some 93), (12, 0, some 95), (13, 0, some 96)] #[true, true, true, true, true, true, true, true, true, true, true, true, true, true, false, false, false] HT_.out HW_.out (by kernel_rfl) (fun _ _ _ _ _ h => h) (Or.inr hHeld) rfl ?_
                                          (iterate 10 refine lkP ?_); (iterate 2 refine lkT ?_); (iterate 2 refine lkP ?_); refine .nil ?_
                                          refine one_ (i := 14) (N := some 97) #[true, true, true, true, true, true, true, true, true, true, true, true, true, true, true, false, false] rfl rfl (one_of HT_.out (by kernel_rfl)) (by decide) (fun K hK => ?_)
                                          refine value_ (w1 := ?_) (v := ?_) (by rfl) rfl ?_ ?_
                                          rotate_left 2
                                          · go_simp
                                            constructor
                                            · rfl
                                            · rfl
                                          refine hK.out _ _ ⟨(World.cell?_alloc_lt _ _ _ (World.block_lt_of_cell? _ _ (((HB.out.cell (World.block_lt_of_cell? w _ hw652_0)).trans hw652_0)))).trans (((HB.out.cell (World.block_lt_of_cell? w _ hw652_0)).trans hw652_0)), (World.cell?_alloc_lt _ _ _ (World.block_lt_of_cell? _ _ (((HB.out.cell (World.block_lt_of_cell? w _ hw652_1)).trans hw652_1)))).trans (((HB.out.cell (World.block_lt_of_cell? w _ hw652_1)).trans hw652_1)), (World.cell?_alloc_lt _ _ _ (World.block_lt_of_cell? _ _ (((HB.out.cell (World.block_lt_of_cell? w _ hw653_0)).trans hw653_0)))).trans (((HB.out.cell (World.block_lt_of_cell? w _ hw653_0)).trans hw653_0)), (World.cell?_alloc_lt _ _ _ (World.block_lt_of_cell? _ _ (((HB.out.cell (World.block_lt_of_cell? w _ hw653_1)).trans hw653_1)))).trans (((HB.out.cell (World.block_lt_of_cell? w _ hw653_1)).trans hw653_1))⟩ (fun hHeld => ?_)
                                          clear hK K
                                          refine norm_ (a' := ?_) ?_ ?_
                                          rotate_left
                                          · show Act.put _ (some 97) _ = _
                                            simp only [Act.put, List.setIfInBounds_toArray, List.set_cons_zero, List.set_cons_succ, i64_w, i32_w]
                                            rfl
                                          refine one_ (i := 15) (N := some 98) #[true, true, true, true, true, true, true, true, true, true, true, true, true, true, true, true, false] rfl rfl (one_of HT_.out (by kernel_rfl)) (by decide) (fun K hK => ?_)
                                          refine Kd.R_append_step k31 (w0 := w) w.heap.size (by rfl) (.tmp 83) (.tmp 97) 25 31 (.agg #[(.int .u64 0), (.int .u64 0)]) 16 rfl Try.underlying25 info31 rfl (by decide) (by omega) v650 y649 (⟨(rd_T31 l0_5 (ji17)).f0, IntKind.u64.wrap (((rd_T31 l0_5 (ji17)).f1) - (IntKind.u64.wrap (1 + (Int.tmod a0_7 (IntKind.u64.wrap (((rd_T31 l0_5 (ji17)).f1) - 1))))))⟩ : S31) [.int .u64 ((rd_T31 l0_5 (ji17)).f0), .int .u64 (IntKind.u64.wrap (((rd_T31 l0_5 (ji17)).f1) - (IntKind.u64.wrap (1 + (Int.tmod a0_7 (IntKind.u64.wrap (((rd_T31 l0_5 (ji17)).f1) - 1)))))))] (fun _ => True) (fun _ => False) rfl rfl ?aP (fun _ hk => hk.elim) ?aF ?aO ?aB ?aS ?aL ?_
                                          (case aP => exact k31_mkM _ _ _ (⟨(rd_T31 l0_5 (ji17)).f0, IntKind.u64.wrap (((rd_T31 l0_5 (ji17)).f1) - (IntKind.u64.wrap (1 + (Int.tmod a0_7 (IntKind.u64.wrap (((rd_T31 l0_5 (ji17)).f1) - 1))))))⟩ : S31))
                                          (case aB => exact (bw HB))
                                          (case aF => exact (fun _ _ => trivial))
                                          (case aO => exact (by (with_reducible repeat (first | apply Kd.R_alloc | apply Kd.R_drewN | apply Kd.R_drew)); exact HO651.out))
                                          (case aS => exact (below_size (bw HB)))
                                          (case aL => have := LMc36.out; omega)
                                          intro v655 w94 ho hb hg hat
                                          rw [← Ny654.out] at ho
                                          have n0_ := Aside0.mk (blk_grown (g := gb630) (o := .cells #[.int .i64 a0_0, .int .u64 a0_1, .int .u64 a0_2, .int .u64 a0_3, .int .u64 a0_4, .slice (some ad639) l0_5.length c0_5, .int .i64 a0_6, .int .u64 a0_7] 55 (0, 0)) (bk BK630) hg (Kd.R_ne HO651.out BK630.out (by decide)))
                                          have n1_ := Aside0.mk (blk_grown (g := gb632) (o := .cells #[.int .i64 a0_0, .int .u64 a0_1, .int .u64 a0_2, .int .u64 a0_3, .int .u64 a0_4] 24 (0, 0)) (bk BK632) hg (Kd.R_ne HO651.out BK632.out (by decide)))
                                          have n2_ := Aside0.mk (blk_grown (g := gb638) (o := .cells #[.int .u64 t634, .int .u64 t635, .int .u64 t636] 40 (0, 0)) (bk BK638) hg (Kd.R_ne HO651.out BK638.out (by decide)))
                                          have n3_ := Aside0.mk (hb)
                                          have n4_ := Aside0.mk (ho)
                                          clear BK630
                                          clear BK632
                                          clear BK638
                                          clear HB
                                          clear HO651
                                          have BK630 := n0_
                                          have BK632 := n1_
                                          have BK638 := n2_
                                          have HB := n3_
                                          have HO656 := n4_
                                          clear n0_ n1_ n2_ n3_ n4_
                                          clear ho hb hg hat
                                          refine hK.out _ _ ⟨((HB.out.cell (World.block_lt_of_cell? w _ hw652_0)).trans hw652_0), ((HB.out.cell (World.block_lt_of_cell? w _ hw652_1)).trans hw652_1), ((HB.out.cell (World.block_lt_of_cell? w _ hw653_0)).trans hw653_0), ((HB.out.cell (World.block_lt_of_cell? w _ hw653_1)).trans hw653_1)⟩ (fun hHeld => ?_)
                                          clear hK K
                                          refine norm_ (a' := ?_) ?_ ?_
                                          rotate_left
                                          · show Act.put _ (some 98) _ = _
                                            simp only [Act.put, List.setIfInBounds_toArray, List.set_cons_zero, List.set_cons_succ, i64_w, i32_w]
                                            rfl
                                          refine chain_ (fuel := 0) [(16, 0, some 12)] #[true, true, true, true, true, true, true, true, true, true, true, true, true, true, true, true, true] HT_.out HW_.out (by kernel_rfl) (fun _ _ _ _ _ h => h) (Or.inl (by decide)) rfl ?_
                                          refine lkP ?_; refine .nil ?_
                                          refine done_ (done_of HT_.out (by kernel_rfl)) ?_
                                          have q95 : ((ji37) : Int) ≤ ((l0_5.length : Int) : Int) := of_decide_eq_true (by first | (with_reducible assumption) | assumption)
                                          obtain ⟨i095, hi095, _, hsz95, _⟩ := info_parts info31
                                          have hroom95 : l0_5.length ≤ c0_5 := HC0_5.out
                                          have hC95 : Kd.C k31 _ (some ad639) l0_5.length l0_5 := HR0_5.out
                                          have q095 : (0 : Int) ≤ ((ji37) : Int) := of_decide_eq_true (by first | (with_reducible assumption) | assumption)
                                          have hcut95 := cut_from (P := Try.prog) 25 31 .i64 Try.underlying25 hi095 2 hsz95 (some ad639) l0_5.length c0_5 (ji37) q095 q95
                                          have hr95 := Kd.C_drop (m := ((ji37) : Int).toNat) (c := c0_5) hC95 (by omega) hroom95
                                          obtain ⟨A95, hA95⟩ : ∃ A1, A1 = (if c0_5 = ((ji37) : Int).toNat then (some ad639) else ((some ad639) : Option Addr).map (·.add (((ji37) : Int).toNat * 2))) := ⟨_, rfl⟩
                                          obtain ⟨c95, hc95⟩ : ∃ c1, c1 = c0_5 - ((ji37) : Int).toNat := ⟨_, rfl⟩
                                          have hy95 : y657.length = l0_5.length - ((ji37) : Int).toNat := (by rw [Ny657.out, List.length_drop] <;> omega)
                                          rw [show (l0_5).drop ((ji37) : Int).toNat = y657 from Ny657.out.symm] at hr95
                                          replace hr95 : Kd.C k31 _ A95 y657.length y657 := (by rw [hA95]; exact hr95)
                                          rw [← hy95, ← hA95, ← hc95] at hcut95
                                          have HR660 := Aside0.mk hr95
                                          have HC660 := Aside0.mk (show y657.length ≤ c95 from by rw [hy95, hc95]; exact Nat.sub_le_sub_right hroom95 _)
                                          clear hr95 hC95 hroom95 hi095 hsz95 hc95
                                          have KY95 := Aside0.mk hy95
                                          have KA95 := Aside0.mk hA95
                                          clear hy95 hA95
                                          replace q95 := eq_true q95
                                          try go_wp2_with (first | ((with_reducible refine gate_builtin (b := .append) (xs := #[.tmp 99, .tmp 103]) rfl ?_); (try (refine gate_guard (by rfl) ?_; dsimp only)); at_builtin; refine Kd.R_append_rows k31 (w0 := w) w.heap.size rfl (.tmp 99) (.tmp 103) 25 31 (.agg #[(.int .u64 0), (.int .u64 0)]) 16 rfl Try.underlying25 info31 rfl (by decide) (by omega) v655 y654 y657 _ _ _ (fun _ => True) (fun _ => False) rfl rfl ?aO ?aR (fun _ _ h => h) (fun _ h => h.elim) ?aF ?aB ?aS ?aL ?_; (case aR => repeat (first | exact (Kd.C_below HR660.out HB.out) | (with_reducible refine Kd.C_alloc ?_ _) | (with_reducible refine Kd.C_drewN ?_ _) | (with_reducible refine Kd.C_drew ?_))); (case aB => exact (bw HB)); (case aF => exact (fun _ _ => trivial)); (case aO => exact (by (with_reducible repeat (first | apply Kd.R_alloc | apply Kd.R_drewN | apply Kd.R_drew)); exact HO656.out)); (case aS => exact (below_size (bw HB))); (case aL => have := LMc40.out; omega); intro v662 w96 ho hb hg hat; rw [← Ny661.out] at ho; have n0_ := Aside0.mk (blk_grown (g := gb630) (o := .cells #[.int .i64 a0_0, .int .u64 a0_1, .int .u64 a0_2, .int .u64 a0_3, .int .u64 a0_4, .slice (some ad639) l0_5.length c0_5, .int .i64 a0_6, .int .u64 a0_7] 55 (0, 0)) (bk BK630) hg (Kd.R_ne HO656.out BK630.out (by decide))); have n1_ := Aside0.mk (blk_grown (g := gb632) (o := .cells #[.int .i64 a0_0, .int .u64 a0_1, .int .u64 a0_2, .int .u64 a0_3, .int .u64 a0_4] 24 (0, 0)) (bk BK632) hg (Kd.R_ne HO656.out BK632.out (by decide))); have n2_ := Aside0.mk (blk_grown (g := gb638) (o := .cells #[.int .u64 t634, .int .u64 t635, .int .u64 t636] 40 (0, 0)) (bk BK638) hg (Kd.R_ne HO656.out BK638.out (by decide))); have n3_ := Aside0.mk (hb); have n4_ := Aside0.mk (ho); clear BK630; clear BK632; clear BK638; clear HB; clear HO656; have BK630 := n0_; have BK632 := n1_; have BK638 := n2_; have HB := n3_; have HO663 := n4_; clear n0_ n1_ n2_ n3_ n4_; clear ho hb hg hat; have hnb97 := NB632_630.out; have hnc97 := NB630_632.out; have hnb98 := NB632_638.out; have hnc98 := NB638_632.out; obtain ⟨hcz99_0, hcz99_1, hcz99_2, hcz99_3, hcz99_4, hfz99_0, hfz99_1, hfz99_2, hfz99_3, hfz99_4⟩ := bc5 BK632; obtain ⟨Ao100, co100, eo100⟩ := Kd.R_slice HO663.out; subst eo100) | ((with_reducible refine gate_callee (f := 17) rfl ?_); refine gl (some 108) Try.func17 #[.agg #[.int .i64 a0_0, .int .u64 a0_1, .int .u64 a0_2, .int .u64 a0_3, .int .u64 a0_4], .slice Ao100 y661.length co100] ?_; (with_reducible refine (audit_Level.calls kj3 a0_0 a0_1 a0_2 a0_3 a0_4 _ _ y661 t664 t665 t666 t667 _ ?side1 ?side2 A41.out).mono ?_); (case side1 => repeat (first | exact (Kd.R_reads' HO663.out).2.2 | (with_reducible refine Kd.C_alloc ?_ _) | (with_reducible refine Kd.C_drewN ?_ _) | (with_reducible refine Kd.C_drew ?_))); (case side2 => exact (Kd.R_reads' HO663.out).2.1); rintro e w101 ⟨rfl, hb⟩; refine ⟨_, rfl, ?_⟩; have n0_ := Aside0.mk (Kd.R_below (by (with_reducible repeat (first | apply Kd.R_alloc | apply Kd.R_drewN | apply Kd.R_drew)); exact HO663.out) hb); have n1_ := bb BK630 hb; have n2_ := bb BK632 hb; have n3_ := bb BK638 hb; have n4_ := bs HB hb; clear HO663; clear BK630; clear BK632; clear BK638; clear HB; have HO663 := n0_; have BK630 := n1_; have BK632 := n2_; have BK638 := n3_; have HB := n4_; clear n0_ n1_ n2_ n3_ n4_; (try clear hb); (try clear hb2); (try clear hk); (try clear hi)) | ((with_reducible refine gate_dst (N := 13) rfl ?_); (try (refine gate_guard (by rfl) ?_; dsimp only)); refine bx 13 #[.int .u64 0, .int .u64 0, .int .u64 0] 40 ?_; intro gb668 hg w102 hbox hb; have n0_ := Aside0.mk (Kd.R_below (by (with_reducible repeat (first | apply Kd.R_alloc | apply Kd.R_drewN | apply Kd.R_drew)); exact HO663.out) hb); have n1_ := bb BK630 hb; have n2_ := bb BK632 hb; have n3_ := bb BK638 hb; have n4_ := bs HB hb; have n5_ := Aside0.mk (hbox); have n6_ := sz HB hg; have n7_ := sz HB hg; have n8_ := nl BK630 hg; have n9_ := nr BK630 hg; have n10_ := nl BK632 hg; have n11_ := nr BK632 hg; have n12_ := nl BK638 hg; have n13_ := nr BK638 hg; clear HO663; clear BK630; clear BK632; clear BK638; clear HB; have HO663 := n0_; have BK630 := n1_; have BK632 := n2_; have BK638 := n3_; have HB := n4_; have BK668 := n5_; have GW668 := n6_; have GE668 := n7_; have NB630_668 := n8_; have NB668_630 := n9_; have NB632_668 := n10_; have NB668_632 := n11_; have NB638_668 := n12_; have NB668_638 := n13_; clear n0_ n1_ n2_ n3_ n4_ n5_ n6_ n7_ n8_ n9_ n10_ n11_ n12_ n13_; clear hb hbox hg; have hnb103 := NB668_630.out; have hnc103 := NB630_668.out; have hnb104 := NB668_632.out; have hnc104 := NB632_668.out; have hnb105 := NB668_638.out; have hnc105 := NB638_668.out; obtain ⟨hcz106_0, hcz106_1, hcz106_2, hfz106_0, hfz106_1, hfz106_2⟩ := bc3 BK668; obtain ⟨hcz107_0, hcz107_1, hcz107_2, hcz107_3, hcz107_4, hfz107_0, hfz107_1, hfz107_2, hfz107_3, hfz107_4⟩ := bc5 BK632) | ((with_reducible refine gate_callee (f := 12) rfl ?_); refine gl (some 113) Try.func12 #[.agg #[.int .i64 a0_0, .int .u64 a0_1, .int .u64 a0_2, .int .u64 a0_3, .int .u64 a0_4], .slice Ao100 y661.length co100] ?_; (with_reducible refine (audit_Conforms.calls kj3 a0_0 a0_1 a0_2 a0_3 a0_4 _ _ y661 t669 _ ?side1 ?side2 A42.out).mono ?_); (case side1 => refine (Kd.R_reads' (e := 31) (base := w.heap.size) (ok := fun k_ => True) (n := y661.length) (c := co100) ?_).2.2; exact (by (with_reducible repeat (first | apply Kd.R_alloc | apply Kd.R_drewN | apply Kd.R_drew)); exact (Kd.R_mono (Kd.R_far (p := ⟨gb668, 2, none⟩) (Kd.R_far (p := ⟨gb668, 1, none⟩) (Kd.R_far (p := ⟨gb668, 0, none⟩) (Kd.R_types HO663.out BK668.out (by decide)) (fun _ hk => hk.2) (.int .u64 t664)) (fun _ hk => hk.2) (.int .u64 t665)) (fun _ hk => hk.2) (.int .u64 t666)) (fun _ h_ => h_.1)))); (case side2 => exact (Kd.R_reads' HO663.out).2.1); rintro e w108 ⟨rfl, hb⟩; refine ⟨_, rfl, ?_⟩; have n0_ := Aside0.mk (Kd.R_below (by (with_reducible repeat (first | apply Kd.R_alloc | apply Kd.R_drewN | apply Kd.R_drew)); exact (Kd.R_mono (Kd.R_far (p := ⟨gb668, 2, none⟩) (Kd.R_far (p := ⟨gb668, 1, none⟩) (Kd.R_far (p := ⟨gb668, 0, none⟩) (Kd.R_types HO663.out BK668.out (by decide)) (fun _ hk => hk.2) (.int .u64 t664)) (fun _ hk => hk.2) (.int .u64 t665)) (fun _ hk => hk.2) (.int .u64 t666)) (fun _ h_ => h_.1))) hb); have n1_ := bb BK630 hb; have n2_ := bb BK632 hb; have n3_ := bb BK638 hb; have n4_ := bbp (.cells #[.int .u64 t664, .int .u64 t665, .int .u64 t666] 40 (0, 0)) BK668 hb; have n5_ := bs HB hb; clear HO663; clear BK630; clear BK632; clear BK638; clear BK668; clear HB; have HO663 := n0_; have BK630 := n1_; have BK632 := n2_; have BK638 := n3_; have BK668 := n4_; have HB := n5_; clear n0_ n1_ n2_ n3_ n4_ n5_; (try clear hb); (try clear hb2); (try clear hk); (try clear hi); obtain ⟨hcz109_0, hcz109_1, hcz109_2, hfz109_0, hfz109_1, hfz109_2⟩ := bc3 BK668; have hnb110 := NB638_630.out; have hnc110 := NB630_638.out; obtain ⟨hcz111_0, hcz111_1, hcz111_2, hfz111_0, hfz111_1, hfz111_2⟩ := bc3 BK638))
                                          go_ret
                                          exact ⟨by first | rfl | (simp [errW_none, errW_some] <;> rfl) | (simp only [← hji17, ← hji37]; first | rfl | (simp [errW_none, errW_some] <;> rfl)) | (simp [*, errW_none, errW_some] <;> rfl), bw HB⟩
                                        · rw [if_neg c88] at H
                                          have c88b0 : (t667 != t637) = false := by simpa using c88
                                          (try (have c88b1 : decide (t667 = t637) = true := by simpa using c88))
                                          (try (have c88b2 : (t667 == t637) = true := by simpa using c88))
                                          clear c88
                                          have H' := Aside0.mk H
                                          clear H
                                          have n0_ : Aside0 ((((w26.setCell ⟨gb638, 0, none⟩ (.int .u64 t634)).setCell ⟨gb638, 1, none⟩ (.int .u64 t635)).setCell ⟨gb638, 2, none⟩ (.int .u64 t636)).heap[gb630]? = some (.cells #[.int .i64 a0_0, .int .u64 a0_1, .int .u64 a0_2, .int .u64 a0_3, .int .u64 a0_4, .slice (some ad639) l0_5.length c0_5, .int .i64 a0_6, .int .u64 a0_7] 55 (0, 0))) := ⟨bk BK630⟩
                                          have n1_ : Aside0 ((((w26.setCell ⟨gb638, 0, none⟩ (.int .u64 t634)).setCell ⟨gb638, 1, none⟩ (.int .u64 t635)).setCell ⟨gb638, 2, none⟩ (.int .u64 t636)).heap[gb632]? = some (.cells #[.int .i64 a0_0, .int .u64 a0_1, .int .u64 a0_2, .int .u64 a0_3, .int .u64 a0_4] 24 (0, 0))) := ⟨bk BK632⟩
                                          have n2_ : Aside0 ((((w26.setCell ⟨gb638, 0, none⟩ (.int .u64 t634)).setCell ⟨gb638, 1, none⟩ (.int .u64 t635)).setCell ⟨gb638, 2, none⟩ (.int .u64 t636)).heap[gb638]? = some (.cells #[.int .u64 t634, .int .u64 t635, .int .u64 t636] 40 (0, 0))) := ⟨bk BK638⟩
                                          have n3_ : Aside0 (Below w.heap.size w (((w26.setCell ⟨gb638, 0, none⟩ (.int .u64 t634)).setCell ⟨gb638, 1, none⟩ (.int .u64 t635)).setCell ⟨gb638, 2, none⟩ (.int .u64 t636))) := ⟨bw HB⟩
                                          (try clear BK630)
                                          (try clear BK632)
                                          (try clear BK638)
                                          (try clear HB)
                                          generalize (((w26.setCell ⟨gb638, 0, none⟩ (.int .u64 t634)).setCell ⟨gb638, 1, none⟩ (.int .u64 t635)).setCell ⟨gb638, 2, none⟩ (.int .u64 t636)) = w112 at n0_ n1_ n2_ n3_ ⊢
                                          have BK630 := n0_
                                          have BK632 := n1_
                                          have BK638 := n2_
                                          have HB := n3_
                                          clear n0_ n1_ n2_ n3_
                                          have p640 : 0 ≤ ((ji17) : Int) := of_decide_eq_true (by first | (with_reducible assumption) | assumption)
                                          have q640 : (ji17) < (l0_5.length : Int) := of_decide_eq_true (by first | (with_reducible assumption) | assumption)
                                          obtain ⟨ad640, e640, hx640_0, hx640_1⟩ := at_T31 HR0_5.out (ji17) p640 q640
                                          obtain rfl : ad639 = ad640 := (by injection e640)
                                          replace hx640_0 := (HB.out.cell (World.block_lt_of_cell? w _ hx640_0)).trans hx640_0
                                          replace hx640_1 := (HB.out.cell (World.block_lt_of_cell? w _ hx640_1)).trans hx640_1
                                          replace p640 := eq_true p640
                                          replace q640 := eq_true q640
                                          have q113 : ((ji17) : Int) ≤ ((l0_5.length : Int) : Int) := of_decide_eq_true (by first | (with_reducible assumption) | assumption)
                                          obtain ⟨i0113, hi0113, _, hsz113, _⟩ := info_parts info31
                                          have hroom113 : l0_5.length ≤ c0_5 := HC0_5.out
                                          have hC113 : Kd.C k31 _ (some ad639) l0_5.length l0_5 := HR0_5.out
                                          have hcut113 := cut_to (P := Try.prog) 25 31 .i64 Try.underlying25 hi0113 (some ad639) l0_5.length c0_5 (ji17) (of_decide_eq_true (by first | (with_reducible assumption) | assumption)) q113 hroom113
                                          have hr113 := Kd.C_take (m := ((ji17) : Int).toNat) hC113 (by omega)
                                          have hy113 : y641.length = ((ji17) : Int).toNat := (by rw [Ny641.out, List.length_take]; omega)
                                          rw [← Ny641.out] at hr113
                                          rw [← hy113] at hcut113
                                          have HR644 := Aside0.mk hr113
                                          have HC644 := Aside0.mk (show y641.length ≤ c0_5 from by omega)
                                          clear hr113 hC113 hroom113 hi0113 hsz113
                                          have KY113 := Aside0.mk hy113
                                          clear hy113
                                          replace q113 := eq_true q113
                                          try go_wp2_with (first | ((with_reducible refine gate_builtin (b := .append) (xs := #[.tmp 68, .tmp 71]) rfl ?_); (try (refine gate_guard (by rfl) ?_; dsimp only)); at_builtin; refine Kd.R_append_rows k31 (w0 := w) w.heap.size rfl (.tmp 68) (.tmp 71) 25 31 (.agg #[(.int .u64 0), (.int .u64 0)]) 16 rfl Try.underlying25 info31 rfl (by decide) (by omega) (.slice none 0 0) ([] : List (S31)) y641 _ _ _ (fun _ => True) (fun _ => False) rfl rfl ?aO ?aR (fun _ _ h => h) (fun _ h => h.elim) ?aF ?aB ?aS ?aL ?_; (case aR => repeat (first | exact (Kd.C_below HR644.out HB.out) | (with_reducible refine Kd.C_alloc ?_ _) | (with_reducible refine Kd.C_drewN ?_ _) | (with_reducible refine Kd.C_drew ?_))); (case aB => exact (bw HB)); (case aF => exact (fun _ _ => trivial)); (case aO => exact ((Kd.R_nil _ _ _ _ (fun _ => True)))); (case aS => exact (below_size (bw HB))); (case aL => have := LMc34.out; omega); intro v646 w114 ho hb hg hat; rw [← Ny645.out] at ho; have n0_ := Aside0.mk (blk_grown (g := gb630) (o := .cells #[.int .i64 a0_0, .int .u64 a0_1, .int .u64 a0_2, .int .u64 a0_3, .int .u64 a0_4, .slice (some ad639) l0_5.length c0_5, .int .i64 a0_6, .int .u64 a0_7] 55 (0, 0)) (bk BK630) hg (by simp [Value.ownBlock])); have n1_ := Aside0.mk (blk_grown (g := gb632) (o := .cells #[.int .i64 a0_0, .int .u64 a0_1, .int .u64 a0_2, .int .u64 a0_3, .int .u64 a0_4] 24 (0, 0)) (bk BK632) hg (by simp [Value.ownBlock])); have n2_ := Aside0.mk (blk_grown (g := gb638) (o := .cells #[.int .u64 t634, .int .u64 t635, .int .u64 t636] 40 (0, 0)) (bk BK638) hg (by simp [Value.ownBlock])); have n3_ := Aside0.mk (hb); have n4_ := Aside0.mk (ho); clear BK630; clear BK632; clear BK638; clear HB; have BK630 := n0_; have BK632 := n1_; have BK638 := n2_; have HB := n3_; have HO647 := n4_; clear n0_ n1_ n2_ n3_ n4_; clear ho hb hg hat; have p648 : 0 ≤ ((ji17) : Int) := of_decide_eq_true (by first | (with_reducible assumption) | assumption); have q648 : (ji17) < (l0_5.length : Int) := of_decide_eq_true (by first | (with_reducible assumption) | assumption); obtain ⟨ad648, e648, hx648_0, hx648_1⟩ := at_T31 HR0_5.out (ji17) p648 q648; obtain rfl : ad639 = ad648 := (by injection e648); replace hx648_0 := (HB.out.cell (World.block_lt_of_cell? w _ hx648_0)).trans hx648_0; replace hx648_1 := (HB.out.cell (World.block_lt_of_cell? w _ hx648_1)).trans hx648_1; replace p648 := eq_true p648; replace q648 := eq_true q648) | ((with_reducible refine gate_builtin (b := .append) (xs := #[.tmp 73, .tmp 81]) rfl ?_); (try (refine gate_guard (by rfl) ?_; dsimp only)); at_builtin; refine Kd.R_append k31 (w0 := w) w.heap.size rfl (.tmp 73) (.tmp 81) 25 31 (.agg #[(.int .u64 0), (.int .u64 0)]) 16 rfl Try.underlying25 info31 rfl (by decide) (by omega) v646 y645 (⟨(rd_T31 l0_5 (ji17)).f0, IntKind.u64.wrap (1 + (Int.tmod a0_7 (IntKind.u64.wrap (((rd_T31 l0_5 (ji17)).f1) - 1))))⟩ : S31) [.int .u64 ((rd_T31 l0_5 (ji17)).f0), .int .u64 (IntKind.u64.wrap (1 + (Int.tmod a0_7 (IntKind.u64.wrap (((rd_T31 l0_5 (ji17)).f1) - 1)))))] (fun _ => True) (fun _ => False) rfl rfl ?aP (fun _ hk => hk.elim) ?aF ?aO ?aB ?aS ?aL ?_; (case aP => exact k31_mkM _ _ _ (⟨(rd_T31 l0_5 (ji17)).f0, IntKind.u64.wrap (1 + (Int.tmod a0_7 (IntKind.u64.wrap (((rd_T31 l0_5 (ji17)).f1) - 1))))⟩ : S31)); (case aB => exact (bw HB)); (case aF => exact (fun _ _ => trivial)); (case aO => exact (by (with_reducible repeat (first | apply Kd.R_alloc | apply Kd.R_drewN | apply Kd.R_drew)); exact HO647.out)); (case aS => exact (below_size (bw HB))); (case aL => have := LMc35.out; omega); intro v650 w115 ho hb hg hat; rw [← Ny649.out] at ho; have n0_ := Aside0.mk (blk_grown (g := gb630) (o := .cells #[.int .i64 a0_0, .int .u64 a0_1, .int .u64 a0_2, .int .u64 a0_3, .int .u64 a0_4, .slice (some ad639) l0_5.length c0_5, .int .i64 a0_6, .int .u64 a0_7] 55 (0, 0)) (bk BK630) hg (Kd.R_ne HO647.out BK630.out (by decide))); have n1_ := Aside0.mk (blk_grown (g := gb632) (o := .cells #[.int .i64 a0_0, .int .u64 a0_1, .int .u64 a0_2, .int .u64 a0_3, .int .u64 a0_4] 24 (0, 0)) (bk BK632) hg (Kd.R_ne HO647.out BK632.out (by decide))); have n2_ := Aside0.mk (blk_grown (g := gb638) (o := .cells #[.int .u64 t634, .int .u64 t635, .int .u64 t636] 40 (0, 0)) (bk BK638) hg (Kd.R_ne HO647.out BK638.out (by decide))); have n3_ := Aside0.mk (hb); have n4_ := Aside0.mk (ho); clear BK630; clear BK632; clear BK638; clear HB; clear HO647; have BK630 := n0_; have BK632 := n1_; have BK638 := n2_; have HB := n3_; have HO651 := n4_; clear n0_ n1_ n2_ n3_ n4_; clear ho hb hg hat))
                                          have n0_ := Aside0.mk (Kd.R_drew HO651.out)
                                          have n1_ := Aside0.mk (blk_drew BK630.out)
                                          have n2_ := Aside0.mk (blk_drew BK632.out)
                                          have n3_ := Aside0.mk (blk_drew BK638.out)
                                          have n4_ := Aside0.mk (below_drew1 HB.out)
                                          clear HO651
                                          clear BK630
                                          clear BK632
                                          clear BK638
                                          clear HB
                                          have HO651 := n0_
                                          have BK630 := n1_
                                          have BK632 := n2_
                                          have BK638 := n3_
                                          have HB := n4_
                                          clear n0_ n1_ n2_ n3_ n4_
                                          have p652 : 0 ≤ ((ji17) : Int) := of_decide_eq_true (by first | (with_reducible assumption) | assumption)
                                          have q652 : (ji17) < (l0_5.length : Int) := of_decide_eq_true (by first | (with_reducible assumption) | assumption)
                                          obtain ⟨ad652, e652, hx652_0, hx652_1⟩ := at_T31 HR0_5.out (ji17) p652 q652
                                          have hw652_1 := hx652_1
                                          have hw652_0 := hx652_0
                                          obtain rfl : ad639 = ad652 := (by injection e652)
                                          replace hx652_0 := (HB.out.cell (World.block_lt_of_cell? w _ hx652_0)).trans hx652_0
                                          replace hx652_1 := (HB.out.cell (World.block_lt_of_cell? w _ hx652_1)).trans hx652_1
                                          replace p652 := eq_true p652
                                          replace q652 := eq_true q652
                                          have p653 : 0 ≤ ((ji17) : Int) := of_decide_eq_true (by first | (with_reducible assumption) | assumption)
                                          have q653 : (ji17) < (l0_5.length : Int) := of_decide_eq_true (by first | (with_reducible assumption) | assumption)
                                          obtain ⟨ad653, e653, hx653_0, hx653_1⟩ := at_T31 HR0_5.out (ji17) p653 q653
                                          have hw653_1 := hx653_1
                                          have hw653_0 := hx653_0
                                          obtain rfl : ad639 = ad653 := (by injection e653)
                                          replace hx653_0 := (HB.out.cell (World.block_lt_of_cell? w _ hx653_0)).trans hx653_0
                                          replace hx653_1 := (HB.out.cell (World.block_lt_of_cell? w _ hx653_1)).trans hx653_1
                                          replace p653 := eq_true p653
                                          replace q653 := eq_true q653
                                          refine start_ (n := 17) (S := fun w' => w'.cell? (ad639.add (((ji17)).toNat * 2)) = some (.int .u64 ((rd_T31 l0_5 (ji17)).f0)) ∧ w'.cell? ⟨(ad639.add (((ji17)).toNat * 2)).block, (ad639.add (((ji17)).toNat * 2)).off + 1, none⟩ = some (.int .u64 ((rd_T31 l0_5 (ji17)).f1)) ∧ w'.cell? (ad639.add (((ji17)).toNat * 2)) = some (.int .u64 ((rd_T31 l0_5 (ji17)).f0)) ∧ w'.cell? ⟨(ad639.add (((ji17)).toNat * 2)).block, (ad639.add (((ji17)).toNat * 2)).off + 1, none⟩ = some (.int .u64 ((rd_T31 l0_5 (ji17)).f1))) (ds := []) #[false, false, false, false, false, false, false, false, false, false, false, false, false, false, false, false, false] (by kernel_rfl) rfl rfl ⟨((HB.out.cell (World.block_lt_of_cell? w _ hw652_0)).trans hw652_0), ((HB.out.cell (World.block_lt_of_cell? w _ hw652_1)).trans hw652_1), ((HB.out.cell (World.block_lt_of_cell? w _ hw653_0)).trans hw653_0), ((HB.out.cell (World.block_lt_of_cell? w _ hw653_1)).trans hw653_1)⟩ (fun hHeld => ?_); refine with_tabW turnstilelaw24_AuditSplits.tab17 turnstilelaw24_AuditSplits.bits17 (fun HT_ HW_ => ?_)
                                          generalize w115.drew = w116 at HO651 BK630 BK632 BK638 HB hx652_0 hx652_1 hx653_0 hx653_1 hHeld ⊢
                                          refine chain_ (fuel := 3) [(0, 0, some 83), (1, 0, some 84), (2, 0, some 85), (3, 0, some 86), (4, 0, some 87), (6, 0, some 89), (7, 0, some 90), (8, 0, some 91), (9, 0, some 92), (11, 0, some 94), (5, 1, some 88), (10, 1, some 93), (12, 0, some 95), (13, 0, some 96)] #[true, true, true, true, true, true, true, true, true, true, true, true, true, true, false, false, false] HT_.out HW_.out (by kernel_rfl) (fun _ _ _ _ _ h => h) (Or.inr hHeld) rfl ?_
                                          (iterate 10 refine lkP ?_); (iterate 2 refine lkT ?_); (iterate 2 refine lkP ?_); refine .nil ?_
                                          refine one_ (i := 14) (N := some 97) #[true, true, true, true, true, true, true, true, true, true, true, true, true, true, true, false, false] rfl rfl (one_of HT_.out (by kernel_rfl)) (by decide) (fun K hK => ?_)
                                          refine value_ (w1 := ?_) (v := ?_) (by rfl) rfl ?_ ?_
                                          rotate_left 2
                                          · go_simp
                                            constructor
                                            · rfl
                                            · rfl
                                          refine hK.out _ _ ⟨(World.cell?_alloc_lt _ _ _ (World.block_lt_of_cell? _ _ (((HB.out.cell (World.block_lt_of_cell? w _ hw652_0)).trans hw652_0)))).trans (((HB.out.cell (World.block_lt_of_cell? w _ hw652_0)).trans hw652_0)), (World.cell?_alloc_lt _ _ _ (World.block_lt_of_cell? _ _ (((HB.out.cell (World.block_lt_of_cell? w _ hw652_1)).trans hw652_1)))).trans (((HB.out.cell (World.block_lt_of_cell? w _ hw652_1)).trans hw652_1)), (World.cell?_alloc_lt _ _ _ (World.block_lt_of_cell? _ _ (((HB.out.cell (World.block_lt_of_cell? w _ hw653_0)).trans hw653_0)))).trans (((HB.out.cell (World.block_lt_of_cell? w _ hw653_0)).trans hw653_0)), (World.cell?_alloc_lt _ _ _ (World.block_lt_of_cell? _ _ (((HB.out.cell (World.block_lt_of_cell? w _ hw653_1)).trans hw653_1)))).trans (((HB.out.cell (World.block_lt_of_cell? w _ hw653_1)).trans hw653_1))⟩ (fun hHeld => ?_)
                                          clear hK K
                                          refine norm_ (a' := ?_) ?_ ?_
                                          rotate_left
                                          · show Act.put _ (some 97) _ = _
                                            simp only [Act.put, List.setIfInBounds_toArray, List.set_cons_zero, List.set_cons_succ, i64_w, i32_w]
                                            rfl
                                          refine one_ (i := 15) (N := some 98) #[true, true, true, true, true, true, true, true, true, true, true, true, true, true, true, true, false] rfl rfl (one_of HT_.out (by kernel_rfl)) (by decide) (fun K hK => ?_)
                                          refine Kd.R_append_step k31 (w0 := w) w.heap.size (by rfl) (.tmp 83) (.tmp 97) 25 31 (.agg #[(.int .u64 0), (.int .u64 0)]) 16 rfl Try.underlying25 info31 rfl (by decide) (by omega) v650 y649 (⟨(rd_T31 l0_5 (ji17)).f0, IntKind.u64.wrap (((rd_T31 l0_5 (ji17)).f1) - (IntKind.u64.wrap (1 + (Int.tmod a0_7 (IntKind.u64.wrap (((rd_T31 l0_5 (ji17)).f1) - 1))))))⟩ : S31) [.int .u64 ((rd_T31 l0_5 (ji17)).f0), .int .u64 (IntKind.u64.wrap (((rd_T31 l0_5 (ji17)).f1) - (IntKind.u64.wrap (1 + (Int.tmod a0_7 (IntKind.u64.wrap (((rd_T31 l0_5 (ji17)).f1) - 1)))))))] (fun _ => True) (fun _ => False) rfl rfl ?aP (fun _ hk => hk.elim) ?aF ?aO ?aB ?aS ?aL ?_
                                          (case aP => exact k31_mkM _ _ _ (⟨(rd_T31 l0_5 (ji17)).f0, IntKind.u64.wrap (((rd_T31 l0_5 (ji17)).f1) - (IntKind.u64.wrap (1 + (Int.tmod a0_7 (IntKind.u64.wrap (((rd_T31 l0_5 (ji17)).f1) - 1))))))⟩ : S31))
                                          (case aB => exact (bw HB))
                                          (case aF => exact (fun _ _ => trivial))
                                          (case aO => exact (by (with_reducible repeat (first | apply Kd.R_alloc | apply Kd.R_drewN | apply Kd.R_drew)); exact HO651.out))
                                          (case aS => exact (below_size (bw HB)))
                                          (case aL => have := LMc36.out; omega)
                                          intro v655 w117 ho hb hg hat
                                          rw [← Ny654.out] at ho
                                          have n0_ := Aside0.mk (blk_grown (g := gb630) (o := .cells #[.int .i64 a0_0, .int .u64 a0_1, .int .u64 a0_2, .int .u64 a0_3, .int .u64 a0_4, .slice (some ad639) l0_5.length c0_5, .int .i64 a0_6, .int .u64 a0_7] 55 (0, 0)) (bk BK630) hg (Kd.R_ne HO651.out BK630.out (by decide)))
                                          have n1_ := Aside0.mk (blk_grown (g := gb632) (o := .cells #[.int .i64 a0_0, .int .u64 a0_1, .int .u64 a0_2, .int .u64 a0_3, .int .u64 a0_4] 24 (0, 0)) (bk BK632) hg (Kd.R_ne HO651.out BK632.out (by decide)))
                                          have n2_ := Aside0.mk (blk_grown (g := gb638) (o := .cells #[.int .u64 t634, .int .u64 t635, .int .u64 t636] 40 (0, 0)) (bk BK638) hg (Kd.R_ne HO651.out BK638.out (by decide)))
                                          have n3_ := Aside0.mk (hb)
                                          have n4_ := Aside0.mk (ho)
                                          clear BK630
                                          clear BK632
                                          clear BK638
                                          clear HB
                                          clear HO651
                                          have BK630 := n0_
                                          have BK632 := n1_
                                          have BK638 := n2_
                                          have HB := n3_
                                          have HO656 := n4_
                                          clear n0_ n1_ n2_ n3_ n4_
                                          clear ho hb hg hat
                                          refine hK.out _ _ ⟨((HB.out.cell (World.block_lt_of_cell? w _ hw652_0)).trans hw652_0), ((HB.out.cell (World.block_lt_of_cell? w _ hw652_1)).trans hw652_1), ((HB.out.cell (World.block_lt_of_cell? w _ hw653_0)).trans hw653_0), ((HB.out.cell (World.block_lt_of_cell? w _ hw653_1)).trans hw653_1)⟩ (fun hHeld => ?_)
                                          clear hK K
                                          refine norm_ (a' := ?_) ?_ ?_
                                          rotate_left
                                          · show Act.put _ (some 98) _ = _
                                            simp only [Act.put, List.setIfInBounds_toArray, List.set_cons_zero, List.set_cons_succ, i64_w, i32_w]
                                            rfl
                                          refine chain_ (fuel := 0) [(16, 0, some 12)] #[true, true, true, true, true, true, true, true, true, true, true, true, true, true, true, true, true] HT_.out HW_.out (by kernel_rfl) (fun _ _ _ _ _ h => h) (Or.inl (by decide)) rfl ?_
                                          refine lkP ?_; refine .nil ?_
                                          refine done_ (done_of HT_.out (by kernel_rfl)) ?_
                                          have q118 : ((ji37) : Int) ≤ ((l0_5.length : Int) : Int) := of_decide_eq_true (by first | (with_reducible assumption) | assumption)
                                          obtain ⟨i0118, hi0118, _, hsz118, _⟩ := info_parts info31
                                          have hroom118 : l0_5.length ≤ c0_5 := HC0_5.out
                                          have hC118 : Kd.C k31 _ (some ad639) l0_5.length l0_5 := HR0_5.out
                                          have q0118 : (0 : Int) ≤ ((ji37) : Int) := of_decide_eq_true (by first | (with_reducible assumption) | assumption)
                                          have hcut118 := cut_from (P := Try.prog) 25 31 .i64 Try.underlying25 hi0118 2 hsz118 (some ad639) l0_5.length c0_5 (ji37) q0118 q118
                                          have hr118 := Kd.C_drop (m := ((ji37) : Int).toNat) (c := c0_5) hC118 (by omega) hroom118
                                          obtain ⟨A118, hA118⟩ : ∃ A1, A1 = (if c0_5 = ((ji37) : Int).toNat then (some ad639) else ((some ad639) : Option Addr).map (·.add (((ji37) : Int).toNat * 2))) := ⟨_, rfl⟩
                                          obtain ⟨c118, hc118⟩ : ∃ c1, c1 = c0_5 - ((ji37) : Int).toNat := ⟨_, rfl⟩
                                          have hy118 : y657.length = l0_5.length - ((ji37) : Int).toNat := (by rw [Ny657.out, List.length_drop] <;> omega)
                                          rw [show (l0_5).drop ((ji37) : Int).toNat = y657 from Ny657.out.symm] at hr118
                                          replace hr118 : Kd.C k31 _ A118 y657.length y657 := (by rw [hA118]; exact hr118)
                                          rw [← hy118, ← hA118, ← hc118] at hcut118
                                          have HR660 := Aside0.mk hr118
                                          have HC660 := Aside0.mk (show y657.length ≤ c118 from by rw [hy118, hc118]; exact Nat.sub_le_sub_right hroom118 _)
                                          clear hr118 hC118 hroom118 hi0118 hsz118 hc118
                                          have KY118 := Aside0.mk hy118
                                          have KA118 := Aside0.mk hA118
                                          clear hy118 hA118
                                          replace q118 := eq_true q118
                                          try go_wp2_with (first | ((with_reducible refine gate_builtin (b := .append) (xs := #[.tmp 99, .tmp 103]) rfl ?_); (try (refine gate_guard (by rfl) ?_; dsimp only)); at_builtin; refine Kd.R_append_rows k31 (w0 := w) w.heap.size rfl (.tmp 99) (.tmp 103) 25 31 (.agg #[(.int .u64 0), (.int .u64 0)]) 16 rfl Try.underlying25 info31 rfl (by decide) (by omega) v655 y654 y657 _ _ _ (fun _ => True) (fun _ => False) rfl rfl ?aO ?aR (fun _ _ h => h) (fun _ h => h.elim) ?aF ?aB ?aS ?aL ?_; (case aR => repeat (first | exact (Kd.C_below HR660.out HB.out) | (with_reducible refine Kd.C_alloc ?_ _) | (with_reducible refine Kd.C_drewN ?_ _) | (with_reducible refine Kd.C_drew ?_))); (case aB => exact (bw HB)); (case aF => exact (fun _ _ => trivial)); (case aO => exact (by (with_reducible repeat (first | apply Kd.R_alloc | apply Kd.R_drewN | apply Kd.R_drew)); exact HO656.out)); (case aS => exact (below_size (bw HB))); (case aL => have := LMc40.out; omega); intro v662 w119 ho hb hg hat; rw [← Ny661.out] at ho; have n0_ := Aside0.mk (blk_grown (g := gb630) (o := .cells #[.int .i64 a0_0, .int .u64 a0_1, .int .u64 a0_2, .int .u64 a0_3, .int .u64 a0_4, .slice (some ad639) l0_5.length c0_5, .int .i64 a0_6, .int .u64 a0_7] 55 (0, 0)) (bk BK630) hg (Kd.R_ne HO656.out BK630.out (by decide))); have n1_ := Aside0.mk (blk_grown (g := gb632) (o := .cells #[.int .i64 a0_0, .int .u64 a0_1, .int .u64 a0_2, .int .u64 a0_3, .int .u64 a0_4] 24 (0, 0)) (bk BK632) hg (Kd.R_ne HO656.out BK632.out (by decide))); have n2_ := Aside0.mk (blk_grown (g := gb638) (o := .cells #[.int .u64 t634, .int .u64 t635, .int .u64 t636] 40 (0, 0)) (bk BK638) hg (Kd.R_ne HO656.out BK638.out (by decide))); have n3_ := Aside0.mk (hb); have n4_ := Aside0.mk (ho); clear BK630; clear BK632; clear BK638; clear HB; clear HO656; have BK630 := n0_; have BK632 := n1_; have BK638 := n2_; have HB := n3_; have HO663 := n4_; clear n0_ n1_ n2_ n3_ n4_; clear ho hb hg hat; have hnb120 := NB632_630.out; have hnc120 := NB630_632.out; have hnb121 := NB632_638.out; have hnc121 := NB638_632.out; obtain ⟨hcz122_0, hcz122_1, hcz122_2, hcz122_3, hcz122_4, hfz122_0, hfz122_1, hfz122_2, hfz122_3, hfz122_4⟩ := bc5 BK632; obtain ⟨Ao123, co123, eo123⟩ := Kd.R_slice HO663.out; subst eo123) | ((with_reducible refine gate_callee (f := 17) rfl ?_); refine gl (some 108) Try.func17 #[.agg #[.int .i64 a0_0, .int .u64 a0_1, .int .u64 a0_2, .int .u64 a0_3, .int .u64 a0_4], .slice Ao123 y661.length co123] ?_; (with_reducible refine (audit_Level.calls kj3 a0_0 a0_1 a0_2 a0_3 a0_4 _ _ y661 t664 t665 t666 t667 _ ?side1 ?side2 A41.out).mono ?_); (case side1 => repeat (first | exact (Kd.R_reads' HO663.out).2.2 | (with_reducible refine Kd.C_alloc ?_ _) | (with_reducible refine Kd.C_drewN ?_ _) | (with_reducible refine Kd.C_drew ?_))); (case side2 => exact (Kd.R_reads' HO663.out).2.1); rintro e w124 ⟨rfl, hb⟩; refine ⟨_, rfl, ?_⟩; have n0_ := Aside0.mk (Kd.R_below (by (with_reducible repeat (first | apply Kd.R_alloc | apply Kd.R_drewN | apply Kd.R_drew)); exact HO663.out) hb); have n1_ := bb BK630 hb; have n2_ := bb BK632 hb; have n3_ := bb BK638 hb; have n4_ := bs HB hb; clear HO663; clear BK630; clear BK632; clear BK638; clear HB; have HO663 := n0_; have BK630 := n1_; have BK632 := n2_; have BK638 := n3_; have HB := n4_; clear n0_ n1_ n2_ n3_ n4_; (try clear hb); (try clear hb2); (try clear hk); (try clear hi)) | ((with_reducible refine gate_dst (N := 13) rfl ?_); (try (refine gate_guard (by rfl) ?_; dsimp only)); refine bx 13 #[.int .u64 0, .int .u64 0, .int .u64 0] 40 ?_; intro gb668 hg w125 hbox hb; have n0_ := Aside0.mk (Kd.R_below (by (with_reducible repeat (first | apply Kd.R_alloc | apply Kd.R_drewN | apply Kd.R_drew)); exact HO663.out) hb); have n1_ := bb BK630 hb; have n2_ := bb BK632 hb; have n3_ := bb BK638 hb; have n4_ := bs HB hb; have n5_ := Aside0.mk (hbox); have n6_ := sz HB hg; have n7_ := sz HB hg; have n8_ := nl BK630 hg; have n9_ := nr BK630 hg; have n10_ := nl BK632 hg; have n11_ := nr BK632 hg; have n12_ := nl BK638 hg; have n13_ := nr BK638 hg; clear HO663; clear BK630; clear BK632; clear BK638; clear HB; have HO663 := n0_; have BK630 := n1_; have BK632 := n2_; have BK638 := n3_; have HB := n4_; have BK668 := n5_; have GW668 := n6_; have GE668 := n7_; have NB630_668 := n8_; have NB668_630 := n9_; have NB632_668 := n10_; have NB668_632 := n11_; have NB638_668 := n12_; have NB668_638 := n13_; clear n0_ n1_ n2_ n3_ n4_ n5_ n6_ n7_ n8_ n9_ n10_ n11_ n12_ n13_; clear hb hbox hg; have hnb126 := NB668_630.out; have hnc126 := NB630_668.out; have hnb127 := NB668_632.out; have hnc127 := NB632_668.out; have hnb128 := NB668_638.out; have hnc128 := NB638_668.out; obtain ⟨hcz129_0, hcz129_1, hcz129_2, hfz129_0, hfz129_1, hfz129_2⟩ := bc3 BK668; obtain ⟨hcz130_0, hcz130_1, hcz130_2, hcz130_3, hcz130_4, hfz130_0, hfz130_1, hfz130_2, hfz130_3, hfz130_4⟩ := bc5 BK632) | ((with_reducible refine gate_callee (f := 12) rfl ?_); refine gl (some 113) Try.func12 #[.agg #[.int .i64 a0_0, .int .u64 a0_1, .int .u64 a0_2, .int .u64 a0_3, .int .u64 a0_4], .slice Ao123 y661.length co123] ?_; (with_reducible refine (audit_Conforms.calls kj3 a0_0 a0_1 a0_2 a0_3 a0_4 _ _ y661 t669 _ ?side1 ?side2 A42.out).mono ?_); (case side1 => refine (Kd.R_reads' (e := 31) (base := w.heap.size) (ok := fun k_ => True) (n := y661.length) (c := co123) ?_).2.2; exact (by (with_reducible repeat (first | apply Kd.R_alloc | apply Kd.R_drewN | apply Kd.R_drew)); exact (Kd.R_mono (Kd.R_far (p := ⟨gb668, 2, none⟩) (Kd.R_far (p := ⟨gb668, 1, none⟩) (Kd.R_far (p := ⟨gb668, 0, none⟩) (Kd.R_types HO663.out BK668.out (by decide)) (fun _ hk => hk.2) (.int .u64 t664)) (fun _ hk => hk.2) (.int .u64 t665)) (fun _ hk => hk.2) (.int .u64 t666)) (fun _ h_ => h_.1)))); (case side2 => exact (Kd.R_reads' HO663.out).2.1); rintro e w131 ⟨rfl, hb⟩; refine ⟨_, rfl, ?_⟩; have n0_ := Aside0.mk (Kd.R_below (by (with_reducible repeat (first | apply Kd.R_alloc | apply Kd.R_drewN | apply Kd.R_drew)); exact (Kd.R_mono (Kd.R_far (p := ⟨gb668, 2, none⟩) (Kd.R_far (p := ⟨gb668, 1, none⟩) (Kd.R_far (p := ⟨gb668, 0, none⟩) (Kd.R_types HO663.out BK668.out (by decide)) (fun _ hk => hk.2) (.int .u64 t664)) (fun _ hk => hk.2) (.int .u64 t665)) (fun _ hk => hk.2) (.int .u64 t666)) (fun _ h_ => h_.1))) hb); have n1_ := bb BK630 hb; have n2_ := bb BK632 hb; have n3_ := bb BK638 hb; have n4_ := bbp (.cells #[.int .u64 t664, .int .u64 t665, .int .u64 t666] 40 (0, 0)) BK668 hb; have n5_ := bs HB hb; clear HO663; clear BK630; clear BK632; clear BK638; clear BK668; clear HB; have HO663 := n0_; have BK630 := n1_; have BK632 := n2_; have BK638 := n3_; have BK668 := n4_; have HB := n5_; clear n0_ n1_ n2_ n3_ n4_ n5_; (try clear hb); (try clear hb2); (try clear hk); (try clear hi); obtain ⟨hcz132_0, hcz132_1, hcz132_2, hfz132_0, hfz132_1, hfz132_2⟩ := bc3 BK668; have hnb133 := NB638_630.out; have hnc133 := NB630_638.out; obtain ⟨hcz134_0, hcz134_1, hcz134_2, hfz134_0, hfz134_1, hfz134_2⟩ := bc3 BK638))
                                          go_meet
                                          case rel => exact ⟨_, H', ⟨by have := HJ3.out; first | omega | exact Nat.le_refl _⟩, ⟨bk BK630⟩, ⟨bk BK632⟩, ⟨bk BK638⟩, ⟨bw HB⟩⟩
                                  · rw [if_neg c40] at H
                                    exact absurd H (by simp)
                                · rw [if_neg c39] at H
                                  exact absurd H (by simp)
                              · rw [if_neg c38] at H
                                exact absurd H (by simp)
                            · rw [if_neg c36] at H
                              exact absurd H (by simp)
                          · rw [if_neg c35] at H
                            exact absurd H (by simp)
                        · rw [if_neg c34] at H
                          exact absurd H (by simp)
                      · rw [if_neg c33] at H
                        exact absurd H (by simp)
                  · rw [if_neg c30] at H
                    have c30b0 : decide (1 < ((rd_T31 l0_5 (ji17)).f1)) = false := decide_eq_false c30
                    clear c30
                    (first | rw [c30b0] | (simp only [i64_w, i32_w]; rw [c30b0]) | skip)
                    have H' := Aside0.mk H
                    clear H
                    go_wp2
                    go_meet
                    case rel => exact ⟨_, H', ⟨by have := HJ3.out; first | omega | exact Nat.le_refl _⟩, ⟨bk BK630⟩, ⟨bk BK632⟩, ⟨bk BK638⟩, ⟨bw HB⟩⟩
                case rest => as_aux_lemma =>
                  clear HC20
                  try clear c1
                  try clear q1
                  try clear p2
                  try clear c3
                  try clear c4
                  try clear c6
                  try clear p6
                  try clear q6
                  try clear hx6
                  try clear c7
                  try clear q7
                  try clear c8
                  try clear c9
                  try clear q9
                  try clear c10
                  try clear c11
                  try clear q11
                  try clear c12
                  try clear c13
                  try clear c17
                  try clear c30
                  try clear c30b0
                  try clear c33
                  try clear c34
                  try clear c35
                  try clear c36
                  try clear c38
                  try clear c39
                  try clear c40
                  try clear c64
                  try clear c64b0
                  try clear p64
                  try clear q64
                  try clear hx64
                  try clear p65
                  try clear q65
                  try clear hx65
                  try clear c71
                  try clear q71
                  try clear c73
                  try clear c74
                  try clear c79
                  try clear c80
                  try clear c81
                  try clear c86
                  try clear c88
                  try clear c88b0
                  try clear c88b1
                  try clear c88b2
                  try clear q90
                  try clear c95
                  try clear q95
                  try clear c97
                  try clear c98
                  try clear c103
                  try clear c104
                  try clear c105
                  try clear c110
                  try clear q113
                  try clear c118
                  try clear q118
                  try clear c120
                  try clear c121
                  try clear c126
                  try clear c127
                  try clear c128
                  try clear c133
                  try clear hcz106_0
                  try clear hcz106_1
                  try clear hcz106_2
                  try clear hcz107_0
                  try clear hcz107_1
                  try clear hcz107_2
                  try clear hcz107_3
                  try clear hcz107_4
                  try clear hcz109_0
                  try clear hcz109_1
                  try clear hcz109_2
                  try clear hcz111_0
                  try clear hcz111_1
                  try clear hcz111_2
                  try clear hcz122_0
                  try clear hcz122_1
                  try clear hcz122_2
                  try clear hcz122_3
                  try clear hcz122_4
                  try clear hcz129_0
                  try clear hcz129_1
                  try clear hcz129_2
                  try clear hcz130_0
                  try clear hcz130_1
                  try clear hcz130_2
                  try clear hcz130_3
                  try clear hcz130_4
                  try clear hcz132_0
                  try clear hcz132_1
                  try clear hcz132_2
                  try clear hcz134_0
                  try clear hcz134_1
                  try clear hcz134_2
                  try clear hcz75_0
                  try clear hcz75_1
                  try clear hcz75_2
                  try clear hcz75_3
                  try clear hcz75_4
                  try clear hcz82_0
                  try clear hcz82_1
                  try clear hcz82_2
                  try clear hcz83_0
                  try clear hcz83_1
                  try clear hcz83_2
                  try clear hcz83_3
                  try clear hcz83_4
                  try clear hcz85_0
                  try clear hcz85_1
                  try clear hcz85_2
                  try clear hcz87_0
                  try clear hcz87_1
                  try clear hcz87_2
                  try clear hcz99_0
                  try clear hcz99_1
                  try clear hcz99_2
                  try clear hcz99_3
                  try clear hcz99_4
                  try clear hfz106_0
                  try clear hfz106_1
                  try clear hfz106_2
                  try clear hfz107_0
                  try clear hfz107_1
                  try clear hfz107_2
                  try clear hfz107_3
                  try clear hfz107_4
                  try clear hfz109_0
                  try clear hfz109_1
                  try clear hfz109_2
                  try clear hfz111_0
                  try clear hfz111_1
                  try clear hfz111_2
                  try clear hfz122_0
                  try clear hfz122_1
                  try clear hfz122_2
                  try clear hfz122_3
                  try clear hfz122_4
                  try clear hfz129_0
                  try clear hfz129_1
                  try clear hfz129_2
                  try clear hfz130_0
                  try clear hfz130_1
                  try clear hfz130_2
                  try clear hfz130_3
                  try clear hfz130_4
                  try clear hfz132_0
                  try clear hfz132_1
                  try clear hfz132_2
                  try clear hfz134_0
                  try clear hfz134_1
                  try clear hfz134_2
                  try clear hfz75_0
                  try clear hfz75_1
                  try clear hfz75_2
                  try clear hfz75_3
                  try clear hfz75_4
                  try clear hfz82_0
                  try clear hfz82_1
                  try clear hfz82_2
                  try clear hfz83_0
                  try clear hfz83_1
                  try clear hfz83_2
                  try clear hfz83_3
                  try clear hfz83_4
                  try clear hfz85_0
                  try clear hfz85_1
                  try clear hfz85_2
                  try clear hfz87_0
                  try clear hfz87_1
                  try clear hfz87_2
                  try clear hfz99_0
                  try clear hfz99_1
                  try clear hfz99_2
                  try clear hfz99_3
                  try clear hfz99_4
                  try clear hx640_0
                  try clear hx640_1
                  try clear hx648_0
                  try clear hx648_1
                  try clear hx652_0
                  try clear hx652_1
                  try clear hx653_0
                  try clear hx653_1
                  try clear p640
                  try clear p648
                  try clear p652
                  try clear p653
                  try clear q0118
                  try clear q071
                  try clear q095
                  try clear q113
                  try clear q118
                  try clear q640
                  try clear q648
                  try clear q652
                  try clear q653
                  try clear q71
                  try clear q90
                  try clear q95
                  obtain ⟨kq, HA, HJ19, BK630, BK632, BK638, HB⟩ := hcut
                  cases kq with
                  | zero => exact absurd HA.out (by simp [turnstilelaw24_AuditSplits.j1])
                  | succ kj19 =>
                    have H := HA.out
                    clear HA
                    simp only [turnstilelaw24_AuditSplits.j1] at H
                    by_cases c135 : a0_0 = 2
                    · rw [if_pos c135] at H
                      have c135b0 : (a0_0 == 2) = true := beq_iff_eq.mpr c135
                      have c135b1 : (a0_0 != 2) = false := bne_eq_false_iff_eq.mpr c135
                      clear c135
                      have H' := Aside0.mk H
                      clear H
                      have hnb136 := NB632_630.out
                      have hnc136 := NB630_632.out
                      have hnb137 := NB632_638.out
                      have hnc137 := NB638_632.out
                      obtain ⟨hcz138_0, hcz138_1, hcz138_2, hcz138_3, hcz138_4, hfz138_0, hfz138_1, hfz138_2, hfz138_3, hfz138_4⟩ := bc5 BK632
                      go_wp2
                      go_loopg [15, 16] kj19 (fun kq v15 v16 w' => ∃ (x15_3 : List (S31)) (x16_3 : Int), v16 = .int .i64 x16_3 ∧ Aside0 (turnstilelaw24_AuditSplits.l0 kq l0_5 t633 t637 x15_3 x16_3 a0_0 a0_1 a0_2 a0_3 a0_4 t634 t635 t636 = some r) ∧ Aside0 (kq ≤ kj19) ∧ Aside0 (Kd.R k31 31 w' w.heap.size (fun _ => True) v15 x15_3) ∧ Aside0 (w'.heap[gb630]? = some (.cells #[.int .i64 a0_0, .int .u64 a0_1, .int .u64 a0_2, .int .u64 a0_3, .int .u64 a0_4, (.slice (some ad639) l0_5.length c0_5), .int .i64 a0_6, .int .u64 a0_7] 55 (0, 0))) ∧ Aside0 (w'.heap[gb632]? = some (.cells #[.int .i64 a0_0, .int .u64 a0_1, .int .u64 a0_2, .int .u64 a0_3, .int .u64 a0_4] 24 (0, 0))) ∧ Aside0 (w'.heap[gb638]? = some (.cells #[.int .u64 t634, .int .u64 t635, .int .u64 t636] 40 (0, 0))) ∧ Aside0 (Below w.heap.size w w'))
                      case atStart => exact ⟨(([] : List (S31))), (0), rs, H', ⟨Nat.le_refl _⟩, ⟨by first | exact Kd.R_nil _ _ _ _ _ | exact Kd.N_nil _ _ _ _ _ | exact Kd.V_nil _ _ _ _ _ | exact Kd.Q_nil _ _ _ _ _ | exact Kd.S_nil _ _ _ _ _⟩, ⟨bk BK630⟩, ⟨bk BK632⟩, ⟨bk BK638⟩, ⟨bw HB⟩⟩
                      case round =>
                        clear H'
                        try clear c1
                        try clear q1
                        try clear p2
                        try clear c3
                        try clear c4
                        try clear c6
                        try clear p6
                        try clear q6
                        try clear hx6
                        try clear c7
                        try clear q7
                        try clear c8
                        try clear c9
                        try clear q9
                        try clear c10
                        try clear c11
                        try clear q11
                        try clear c12
                        try clear c13
                        try clear c17
                        try clear c30
                        try clear c30b0
                        try clear c33
                        try clear c34
                        try clear c35
                        try clear c36
                        try clear c38
                        try clear c39
                        try clear c40
                        try clear c64
                        try clear c64b0
                        try clear p64
                        try clear q64
                        try clear hx64
                        try clear p65
                        try clear q65
                        try clear hx65
                        try clear c71
                        try clear q71
                        try clear c73
                        try clear c74
                        try clear c79
                        try clear c80
                        try clear c81
                        try clear c86
                        try clear c88
                        try clear c88b0
                        try clear c88b1
                        try clear c88b2
                        try clear q90
                        try clear c95
                        try clear q95
                        try clear c97
                        try clear c98
                        try clear c103
                        try clear c104
                        try clear c105
                        try clear c110
                        try clear q113
                        try clear c118
                        try clear q118
                        try clear c120
                        try clear c121
                        try clear c126
                        try clear c127
                        try clear c128
                        try clear c133
                        try clear c135
                        try clear c135b0
                        try clear c135b1
                        try clear c136
                        try clear c137
                        try clear hcz106_0
                        try clear hcz106_1
                        try clear hcz106_2
                        try clear hcz107_0
                        try clear hcz107_1
                        try clear hcz107_2
                        try clear hcz107_3
                        try clear hcz107_4
                        try clear hcz109_0
                        try clear hcz109_1
                        try clear hcz109_2
                        try clear hcz111_0
                        try clear hcz111_1
                        try clear hcz111_2
                        try clear hcz122_0
                        try clear hcz122_1
                        try clear hcz122_2
                        try clear hcz122_3
                        try clear hcz122_4
                        try clear hcz129_0
                        try clear hcz129_1
                        try clear hcz129_2
                        try clear hcz130_0
                        try clear hcz130_1
                        try clear hcz130_2
                        try clear hcz130_3
                        try clear hcz130_4
                        try clear hcz132_0
                        try clear hcz132_1
                        try clear hcz132_2
                        try clear hcz134_0
                        try clear hcz134_1
                        try clear hcz134_2
                        try clear hcz138_0
                        try clear hcz138_1
                        try clear hcz138_2
                        try clear hcz138_3
                        try clear hcz138_4
                        try clear hcz75_0
                        try clear hcz75_1
                        try clear hcz75_2
                        try clear hcz75_3
                        try clear hcz75_4
                        try clear hcz82_0
                        try clear hcz82_1
                        try clear hcz82_2
                        try clear hcz83_0
                        try clear hcz83_1
                        try clear hcz83_2
                        try clear hcz83_3
                        try clear hcz83_4
                        try clear hcz85_0
                        try clear hcz85_1
                        try clear hcz85_2
                        try clear hcz87_0
                        try clear hcz87_1
                        try clear hcz87_2
                        try clear hcz99_0
                        try clear hcz99_1
                        try clear hcz99_2
                        try clear hcz99_3
                        try clear hcz99_4
                        try clear hfz106_0
                        try clear hfz106_1
                        try clear hfz106_2
                        try clear hfz107_0
                        try clear hfz107_1
                        try clear hfz107_2
                        try clear hfz107_3
                        try clear hfz107_4
                        try clear hfz109_0
                        try clear hfz109_1
                        try clear hfz109_2
                        try clear hfz111_0
                        try clear hfz111_1
                        try clear hfz111_2
                        try clear hfz122_0
                        try clear hfz122_1
                        try clear hfz122_2
                        try clear hfz122_3
                        try clear hfz122_4
                        try clear hfz129_0
                        try clear hfz129_1
                        try clear hfz129_2
                        try clear hfz130_0
                        try clear hfz130_1
                        try clear hfz130_2
                        try clear hfz130_3
                        try clear hfz130_4
                        try clear hfz132_0
                        try clear hfz132_1
                        try clear hfz132_2
                        try clear hfz134_0
                        try clear hfz134_1
                        try clear hfz134_2
                        try clear hfz138_0
                        try clear hfz138_1
                        try clear hfz138_2
                        try clear hfz138_3
                        try clear hfz138_4
                        try clear hfz75_0
                        try clear hfz75_1
                        try clear hfz75_2
                        try clear hfz75_3
                        try clear hfz75_4
                        try clear hfz82_0
                        try clear hfz82_1
                        try clear hfz82_2
                        try clear hfz83_0
                        try clear hfz83_1
                        try clear hfz83_2
                        try clear hfz83_3
                        try clear hfz83_4
                        try clear hfz85_0
                        try clear hfz85_1
                        try clear hfz85_2
                        try clear hfz87_0
                        try clear hfz87_1
                        try clear hfz87_2
                        try clear hfz99_0
                        try clear hfz99_1
                        try clear hfz99_2
                        try clear hfz99_3
                        try clear hfz99_4
                        try clear hx640_0
                        try clear hx640_1
                        try clear hx648_0
                        try clear hx648_1
                        try clear hx652_0
                        try clear hx652_1
                        try clear hx653_0
                        try clear hx653_1
                        try clear p2
                        try clear p6
                        try clear p64
                        try clear p640
                        try clear p648
                        try clear p65
                        try clear p652
                        try clear p653
                        try clear q0118
                        try clear q071
                        try clear q095
                        try clear q1
                        try clear q11
                        try clear q113
                        try clear q118
                        try clear q6
                        try clear q64
                        try clear q640
                        try clear q648
                        try clear q65
                        try clear q652
                        try clear q653
                        try clear q7
                        try clear q71
                        try clear q9
                        try clear q90
                        try clear q95
                        obtain ⟨x15_3, x16_3, rfl, HA, HK3, HO_15, BK630, BK632, BK638, HB⟩ := hrel
                        cases gk with
                        | zero => exact absurd HA.out (by simp [turnstilelaw24_AuditSplits.l0])
                        | succ k3 =>
                          have H := HA.out
                          clear HA
                          simp only [turnstilelaw24_AuditSplits.l0] at H
                          by_cases c139 : x16_3 < (l0_5.length : Int)
                          · rw [if_pos c139] at H
                            have c139b0 : decide (x16_3 < (l0_5.length : Int)) = true := decide_eq_true c139
                            clear c139
                            obtain ⟨ji140, hji140⟩ : ∃ j_ : Int, (wrap64 ((wrap64 ((l0_5.length : Int) - 1)) - x16_3)) = j_ := ⟨_, rfl⟩
                            replace H : (if 0 ≤ (ji140) then (if (ji140) < (l0_5.length : Int) then (if x15_3.length < 8796093022208 then (turnstilelaw24_AuditSplits.l0 k3 l0_5 t633 t637 (x15_3 ++ [(⟨(rd_T31 l0_5 (ji140)).f0, (rd_T31 l0_5 (ji140)).f1⟩ : S31)]) (wrap64 (x16_3 + 1)) a0_0 a0_1 a0_2 a0_3 a0_4 t634 t635 t636) else (none)) else (none)) else (none)) = some r := by first | (rw [hji140] at H; exact H) | (simp only [hji140] at H ⊢; exact H)
                            have hji140w : (IntKind.i64.wrap ((wrap64 ((l0_5.length : Int) - 1)) - x16_3)) = ji140 := (i64_w _).trans hji140
                            by_cases c141 : 0 ≤ (ji140)
                            · rw [if_pos c141] at H
                              have c141b0 : decide (0 ≤ (ji140)) = true := decide_eq_true c141
                              clear c141
                              by_cases c142 : (ji140) < (l0_5.length : Int)
                              · rw [if_pos c142] at H
                                have c142b0 : decide ((ji140) < (l0_5.length : Int)) = true := decide_eq_true c142
                                clear c142
                                by_cases c143 : x15_3.length < 8796093022208
                                · rw [if_pos c143] at H
                                  have LMc143 := Aside0.mk c143
                                  clear c143
                                  obtain ⟨y671, hy671⟩ : ∃ y_ : List (S31), y_ = (x15_3 ++ [(⟨(rd_T31 l0_5 (ji140)).f0, (rd_T31 l0_5 (ji140)).f1⟩ : S31)]) := ⟨_, rfl⟩
                                  replace H : (turnstilelaw24_AuditSplits.l0 k3 l0_5 t633 t637 y671 (wrap64 (x16_3 + 1)) a0_0 a0_1 a0_2 a0_3 a0_4 t634 t635 t636) = some r := by first | (rw [hy671]; with_reducible exact H) | (have H2_ := (Option.bind_some _ _).symm.trans H; rw [hy671]; with_reducible exact H2_) | (have H2_ := (Option.bind_some _ _).symm.trans H; with_reducible exact H2_) | with_reducible exact H | (rw [hy671]; exact H) | exact H
                                  have Ny671 := Aside0.mk hy671
                                  clear hy671
                                  have H' := Aside0.mk H
                                  clear H
                                  have p670 : 0 ≤ ((ji140) : Int) := of_decide_eq_true (by first | (with_reducible assumption) | assumption)
                                  have q670 : (ji140) < (l0_5.length : Int) := of_decide_eq_true (by first | (with_reducible assumption) | assumption)
                                  obtain ⟨ad670, e670, hx670_0, hx670_1⟩ := at_T31 HR0_5.out (ji140) p670 q670
                                  obtain rfl : ad639 = ad670 := (by injection e670)
                                  replace hx670_0 := (HB.out.cell (World.block_lt_of_cell? w _ hx670_0)).trans hx670_0
                                  replace hx670_1 := (HB.out.cell (World.block_lt_of_cell? w _ hx670_1)).trans hx670_1
                                  replace p670 := eq_true p670
                                  replace q670 := eq_true q670
                                  go_wp2_with (first | ((with_reducible refine gate_builtin (b := .append) (xs := #[.tmp 135, .tmp 144]) rfl ?_); (try (refine gate_guard (by rfl) ?_; dsimp only)); at_builtin; refine Kd.R_append k31 (w0 := w) w.heap.size rfl (.tmp 135) (.tmp 144) 25 31 (.agg #[(.int .u64 0), (.int .u64 0)]) 16 rfl Try.underlying25 info31 rfl (by decide) (by omega) u15 x15_3 (⟨(rd_T31 l0_5 (ji140)).f0, (rd_T31 l0_5 (ji140)).f1⟩ : S31) [.int .u64 ((rd_T31 l0_5 (ji140)).f0), .int .u64 ((rd_T31 l0_5 (ji140)).f1)] (fun _ => True) (fun _ => False) rfl rfl ?aP (fun _ hk => hk.elim) ?aF ?aO ?aB ?aS ?aL ?_; (case aP => exact k31_mkM _ _ _ (⟨(rd_T31 l0_5 (ji140)).f0, (rd_T31 l0_5 (ji140)).f1⟩ : S31)); (case aB => exact (bw HB)); (case aF => exact (fun _ _ => trivial)); (case aO => exact (by (with_reducible repeat (first | apply Kd.R_alloc | apply Kd.R_drewN | apply Kd.R_drew)); exact HO_15.out)); (case aS => exact (below_size (bw HB))); (case aL => have := LMc143.out; omega); intro v672 w144 ho hb hg hat; rw [← Ny671.out] at ho; have n0_ := Aside0.mk (blk_grown (g := gb630) (o := .cells #[.int .i64 a0_0, .int .u64 a0_1, .int .u64 a0_2, .int .u64 a0_3, .int .u64 a0_4, .slice (some ad639) l0_5.length c0_5, .int .i64 a0_6, .int .u64 a0_7] 55 (0, 0)) (bk BK630) hg (Kd.R_ne HO_15.out BK630.out (by decide))); have n1_ := Aside0.mk (blk_grown (g := gb632) (o := .cells #[.int .i64 a0_0, .int .u64 a0_1, .int .u64 a0_2, .int .u64 a0_3, .int .u64 a0_4] 24 (0, 0)) (bk BK632) hg (Kd.R_ne HO_15.out BK632.out (by decide))); have n2_ := Aside0.mk (blk_grown (g := gb638) (o := .cells #[.int .u64 t634, .int .u64 t635, .int .u64 t636] 40 (0, 0)) (bk BK638) hg (Kd.R_ne HO_15.out BK638.out (by decide))); have n3_ := Aside0.mk (hb); have n4_ := Aside0.mk (ho); clear BK630; clear BK632; clear BK638; clear HB; clear HO_15; have BK630 := n0_; have BK632 := n1_; have BK638 := n2_; have HB := n3_; have HO673 := n4_; clear n0_ n1_ n2_ n3_ n4_; clear ho hb hg hat))
                                  go_roundg k3
                                  case measure => have := HJ3.out; have := HJ19.out; have := HK3.out; omega
                                  case rel => exact ⟨(y671), (wrap64 (x16_3 + 1)), rs, H', ⟨by have := HJ3.out; have := HJ19.out; have := HK3.out; omega⟩, ⟨by (with_reducible repeat (first | apply Kd.R_alloc | apply Kd.R_drewN | apply Kd.R_drew)); exact HO673.out⟩, ⟨bk BK630⟩, ⟨bk BK632⟩, ⟨bk BK638⟩, ⟨bw HB⟩⟩
                                · rw [if_neg c143] at H
                                  exact absurd H (by simp)
                              · rw [if_neg c142] at H
                                exact absurd H (by simp)
                            · rw [if_neg c141] at H
                              exact absurd H (by simp)
                          · rw [if_neg c139] at H
                            have c139b0 : decide (x16_3 < (l0_5.length : Int)) = false := decide_eq_false c139
                            clear c139
                            replace H := Option.bind_eq_some_iff.mp H
                            obtain ⟨⟨t674, t675, t676, t677⟩, A1450, H⟩ := H
                            replace H : ((audit_Conforms.f k3 a0_0 a0_1 a0_2 a0_3 a0_4 x15_3).bind fun t679 => (if (t679 == t633) = true then (if (t674 == t634 && (t675 == t635 && (t676 == t636))) = true then (some (t677 == t637)) else (some false)) else (some false))) = some r := H
                            have A145 := Aside0.mk A1450
                            clear A1450
                            replace H := Option.bind_eq_some_iff.mp H
                            obtain ⟨t679, A1460, H⟩ := H
                            replace H : (if (t679 == t633) = true then (if (t674 == t634 && (t675 == t635 && (t676 == t636))) = true then (some (t677 == t637)) else (some false)) else (some false)) = some r := H
                            have A146 := Aside0.mk A1460
                            clear A1460
                            by_cases c147 : (t679 == t633) = true
                            · rw [if_pos c147] at H
                              have c147b0 : (t679 == t633) = true := c147
                              (try (have c147b1 : decide (t679 = t633) = true := by simpa using c147))
                              (try (have c147b2 : (t679 == t633) = true := by simpa using c147))
                              clear c147
                              by_cases c148 : (t674 == t634 && (t675 == t635 && (t676 == t636))) = true
                              · rw [if_pos c148] at H
                                have c148b0 : (t674 == t634 && (t675 == t635 && (t676 == t636))) = true := c148
                                (try (have c148b1 : decide (t674 = t634 && (t675 == t635 && (t676 == t636))) = true := by simpa using c148))
                                (try (have c148b2 : (t674 == t634 && (t675 == t635 && (t676 == t636))) = true := by simpa using c148))
                                clear c148
                                obtain rfl := Option.some.inj H
                                have hnb149 := NB632_630.out
                                have hnc149 := NB630_632.out
                                have hnb150 := NB632_638.out
                                have hnc150 := NB638_632.out
                                obtain ⟨hcz151_0, hcz151_1, hcz151_2, hcz151_3, hcz151_4, hfz151_0, hfz151_1, hfz151_2, hfz151_3, hfz151_4⟩ := bc5 BK632
                                obtain ⟨Ao152, co152, eo152⟩ := Kd.R_slice HO_15.out
                                subst eo152
                                go_wp2_with (first | ((with_reducible refine gate_callee (f := 17) rfl ?_); refine gl (some 149) Try.func17 #[.agg #[.int .i64 a0_0, .int .u64 a0_1, .int .u64 a0_2, .int .u64 a0_3, .int .u64 a0_4], .slice Ao152 x15_3.length co152] ?_; (with_reducible refine (audit_Level.calls k3 a0_0 a0_1 a0_2 a0_3 a0_4 _ _ x15_3 t674 t675 t676 t677 _ ?side1 ?side2 A145.out).mono ?_); (case side1 => repeat (first | exact (Kd.R_reads' HO_15.out).2.2 | (with_reducible refine Kd.C_alloc ?_ _) | (with_reducible refine Kd.C_drewN ?_ _) | (with_reducible refine Kd.C_drew ?_))); (case side2 => exact (Kd.R_reads' HO_15.out).2.1); rintro e w153 ⟨rfl, hb⟩; refine ⟨_, rfl, ?_⟩; have n0_ := Aside0.mk (Kd.R_below (by (with_reducible repeat (first | apply Kd.R_alloc | apply Kd.R_drewN | apply Kd.R_drew)); exact HO_15.out) hb); have n1_ := bb BK630 hb; have n2_ := bb BK632 hb; have n3_ := bb BK638 hb; have n4_ := bs HB hb; clear HO_15; clear BK630; clear BK632; clear BK638; clear HB; have HO_15 := n0_; have BK630 := n1_; have BK632 := n2_; have BK638 := n3_; have HB := n4_; clear n0_ n1_ n2_ n3_ n4_; (try clear hb); (try clear hb2); (try clear hk); (try clear hi)) | ((with_reducible refine gate_dst (N := 17) rfl ?_); (try (refine gate_guard (by rfl) ?_; dsimp only)); refine bx 17 #[.int .u64 0, .int .u64 0, .int .u64 0] 40 ?_; intro gb678 hg w154 hbox hb; have n0_ := Aside0.mk (Kd.R_below (by (with_reducible repeat (first | apply Kd.R_alloc | apply Kd.R_drewN | apply Kd.R_drew)); exact HO_15.out) hb); have n1_ := bb BK630 hb; have n2_ := bb BK632 hb; have n3_ := bb BK638 hb; have n4_ := bs HB hb; have n5_ := Aside0.mk (hbox); have n6_ := sz HB hg; have n7_ := sz HB hg; have n8_ := nl BK630 hg; have n9_ := nr BK630 hg; have n10_ := nl BK632 hg; have n11_ := nr BK632 hg; have n12_ := nl BK638 hg; have n13_ := nr BK638 hg; clear HO_15; clear BK630; clear BK632; clear BK638; clear HB; have HO_15 := n0_; have BK630 := n1_; have BK632 := n2_; have BK638 := n3_; have HB := n4_; have BK678 := n5_; have GW678 := n6_; have GE678 := n7_; have NB630_678 := n8_; have NB678_630 := n9_; have NB632_678 := n10_; have NB678_632 := n11_; have NB638_678 := n12_; have NB678_638 := n13_; clear n0_ n1_ n2_ n3_ n4_ n5_ n6_ n7_ n8_ n9_ n10_ n11_ n12_ n13_; clear hb hbox hg; have hnb155 := NB678_630.out; have hnc155 := NB630_678.out; have hnb156 := NB678_632.out; have hnc156 := NB632_678.out; have hnb157 := NB678_638.out; have hnc157 := NB638_678.out; obtain ⟨hcz158_0, hcz158_1, hcz158_2, hfz158_0, hfz158_1, hfz158_2⟩ := bc3 BK678; obtain ⟨hcz159_0, hcz159_1, hcz159_2, hcz159_3, hcz159_4, hfz159_0, hfz159_1, hfz159_2, hfz159_3, hfz159_4⟩ := bc5 BK632) | ((with_reducible refine gate_callee (f := 12) rfl ?_); refine gl (some 154) Try.func12 #[.agg #[.int .i64 a0_0, .int .u64 a0_1, .int .u64 a0_2, .int .u64 a0_3, .int .u64 a0_4], .slice Ao152 x15_3.length co152] ?_; (with_reducible refine (audit_Conforms.calls k3 a0_0 a0_1 a0_2 a0_3 a0_4 _ _ x15_3 t679 _ ?side1 ?side2 A146.out).mono ?_); (case side1 => refine (Kd.R_reads' (e := 31) (base := w.heap.size) (ok := fun k_ => True) (n := x15_3.length) (c := co152) ?_).2.2; exact (by (with_reducible repeat (first | apply Kd.R_alloc | apply Kd.R_drewN | apply Kd.R_drew)); exact (Kd.R_mono (Kd.R_far (p := ⟨gb678, 2, none⟩) (Kd.R_far (p := ⟨gb678, 1, none⟩) (Kd.R_far (p := ⟨gb678, 0, none⟩) (Kd.R_types HO_15.out BK678.out (by decide)) (fun _ hk => hk.2) (.int .u64 t674)) (fun _ hk => hk.2) (.int .u64 t675)) (fun _ hk => hk.2) (.int .u64 t676)) (fun _ h_ => h_.1)))); (case side2 => exact (Kd.R_reads' HO_15.out).2.1); rintro e w160 ⟨rfl, hb⟩; refine ⟨_, rfl, ?_⟩; have n0_ := Aside0.mk (Kd.R_below (by (with_reducible repeat (first | apply Kd.R_alloc | apply Kd.R_drewN | apply Kd.R_drew)); exact (Kd.R_mono (Kd.R_far (p := ⟨gb678, 2, none⟩) (Kd.R_far (p := ⟨gb678, 1, none⟩) (Kd.R_far (p := ⟨gb678, 0, none⟩) (Kd.R_types HO_15.out BK678.out (by decide)) (fun _ hk => hk.2) (.int .u64 t674)) (fun _ hk => hk.2) (.int .u64 t675)) (fun _ hk => hk.2) (.int .u64 t676)) (fun _ h_ => h_.1))) hb); have n1_ := bb BK630 hb; have n2_ := bb BK632 hb; have n3_ := bb BK638 hb; have n4_ := bbp (.cells #[.int .u64 t674, .int .u64 t675, .int .u64 t676] 40 (0, 0)) BK678 hb; have n5_ := bs HB hb; clear HO_15; clear BK630; clear BK632; clear BK638; clear BK678; clear HB; have HO_15 := n0_; have BK630 := n1_; have BK632 := n2_; have BK638 := n3_; have BK678 := n4_; have HB := n5_; clear n0_ n1_ n2_ n3_ n4_ n5_; (try clear hb); (try clear hb2); (try clear hk); (try clear hi); obtain ⟨hcz161_0, hcz161_1, hcz161_2, hfz161_0, hfz161_1, hfz161_2⟩ := bc3 BK678; have hnb162 := NB638_630.out; have hnc162 := NB630_638.out; obtain ⟨hcz163_0, hcz163_1, hcz163_2, hfz163_0, hfz163_1, hfz163_2⟩ := bc3 BK638))
                                go_ret
                                exact ⟨by first | rfl | (simp [errW_none, errW_some] <;> rfl) | (simp only [← hji17]; first | rfl | (simp [errW_none, errW_some] <;> rfl)) | (simp [*, errW_none, errW_some] <;> rfl), bw HB⟩
                              · rw [if_neg c148] at H
                                have c148b0 : (t674 == t634 && (t675 == t635 && (t676 == t636))) = false := by simpa using c148
                                (try (have c148b1 : decide (t674 = t634 && (t675 == t635 && (t676 == t636))) = false := by simpa using c148))
                                (try (have c148b2 : (t674 == t634 && (t675 == t635 && (t676 == t636))) = false := by simpa using c148))
                                (try (have c148b3 : ¬ (t674 = t634 && (t675 == t635 && (t676 == t636))) := by simpa using c148))
                                clear c148
                                obtain rfl := Option.some.inj H
                                have hnb164 := NB632_630.out
                                have hnc164 := NB630_632.out
                                have hnb165 := NB632_638.out
                                have hnc165 := NB638_632.out
                                obtain ⟨hcz166_0, hcz166_1, hcz166_2, hcz166_3, hcz166_4, hfz166_0, hfz166_1, hfz166_2, hfz166_3, hfz166_4⟩ := bc5 BK632
                                obtain ⟨Ao167, co167, eo167⟩ := Kd.R_slice HO_15.out
                                subst eo167
                                go_wp2_with (first | ((with_reducible refine gate_callee (f := 17) rfl ?_); refine gl (some 149) Try.func17 #[.agg #[.int .i64 a0_0, .int .u64 a0_1, .int .u64 a0_2, .int .u64 a0_3, .int .u64 a0_4], .slice Ao167 x15_3.length co167] ?_; (with_reducible refine (audit_Level.calls k3 a0_0 a0_1 a0_2 a0_3 a0_4 _ _ x15_3 t674 t675 t676 t677 _ ?side1 ?side2 A145.out).mono ?_); (case side1 => repeat (first | exact (Kd.R_reads' HO_15.out).2.2 | (with_reducible refine Kd.C_alloc ?_ _) | (with_reducible refine Kd.C_drewN ?_ _) | (with_reducible refine Kd.C_drew ?_))); (case side2 => exact (Kd.R_reads' HO_15.out).2.1); rintro e w168 ⟨rfl, hb⟩; refine ⟨_, rfl, ?_⟩; have n0_ := Aside0.mk (Kd.R_below (by (with_reducible repeat (first | apply Kd.R_alloc | apply Kd.R_drewN | apply Kd.R_drew)); exact HO_15.out) hb); have n1_ := bb BK630 hb; have n2_ := bb BK632 hb; have n3_ := bb BK638 hb; have n4_ := bs HB hb; clear HO_15; clear BK630; clear BK632; clear BK638; clear HB; have HO_15 := n0_; have BK630 := n1_; have BK632 := n2_; have BK638 := n3_; have HB := n4_; clear n0_ n1_ n2_ n3_ n4_; (try clear hb); (try clear hb2); (try clear hk); (try clear hi)) | ((with_reducible refine gate_dst (N := 17) rfl ?_); (try (refine gate_guard (by rfl) ?_; dsimp only)); refine bx 17 #[.int .u64 0, .int .u64 0, .int .u64 0] 40 ?_; intro gb678 hg w169 hbox hb; have n0_ := Aside0.mk (Kd.R_below (by (with_reducible repeat (first | apply Kd.R_alloc | apply Kd.R_drewN | apply Kd.R_drew)); exact HO_15.out) hb); have n1_ := bb BK630 hb; have n2_ := bb BK632 hb; have n3_ := bb BK638 hb; have n4_ := bs HB hb; have n5_ := Aside0.mk (hbox); have n6_ := sz HB hg; have n7_ := sz HB hg; have n8_ := nl BK630 hg; have n9_ := nr BK630 hg; have n10_ := nl BK632 hg; have n11_ := nr BK632 hg; have n12_ := nl BK638 hg; have n13_ := nr BK638 hg; clear HO_15; clear BK630; clear BK632; clear BK638; clear HB; have HO_15 := n0_; have BK630 := n1_; have BK632 := n2_; have BK638 := n3_; have HB := n4_; have BK678 := n5_; have GW678 := n6_; have GE678 := n7_; have NB630_678 := n8_; have NB678_630 := n9_; have NB632_678 := n10_; have NB678_632 := n11_; have NB638_678 := n12_; have NB678_638 := n13_; clear n0_ n1_ n2_ n3_ n4_ n5_ n6_ n7_ n8_ n9_ n10_ n11_ n12_ n13_; clear hb hbox hg; have hnb170 := NB678_630.out; have hnc170 := NB630_678.out; have hnb171 := NB678_632.out; have hnc171 := NB632_678.out; have hnb172 := NB678_638.out; have hnc172 := NB638_678.out; obtain ⟨hcz173_0, hcz173_1, hcz173_2, hfz173_0, hfz173_1, hfz173_2⟩ := bc3 BK678; obtain ⟨hcz174_0, hcz174_1, hcz174_2, hcz174_3, hcz174_4, hfz174_0, hfz174_1, hfz174_2, hfz174_3, hfz174_4⟩ := bc5 BK632) | ((with_reducible refine gate_callee (f := 12) rfl ?_); refine gl (some 154) Try.func12 #[.agg #[.int .i64 a0_0, .int .u64 a0_1, .int .u64 a0_2, .int .u64 a0_3, .int .u64 a0_4], .slice Ao167 x15_3.length co167] ?_; (with_reducible refine (audit_Conforms.calls k3 a0_0 a0_1 a0_2 a0_3 a0_4 _ _ x15_3 t679 _ ?side1 ?side2 A146.out).mono ?_); (case side1 => refine (Kd.R_reads' (e := 31) (base := w.heap.size) (ok := fun k_ => True) (n := x15_3.length) (c := co167) ?_).2.2; exact (by (with_reducible repeat (first | apply Kd.R_alloc | apply Kd.R_drewN | apply Kd.R_drew)); exact (Kd.R_mono (Kd.R_far (p := ⟨gb678, 2, none⟩) (Kd.R_far (p := ⟨gb678, 1, none⟩) (Kd.R_far (p := ⟨gb678, 0, none⟩) (Kd.R_types HO_15.out BK678.out (by decide)) (fun _ hk => hk.2) (.int .u64 t674)) (fun _ hk => hk.2) (.int .u64 t675)) (fun _ hk => hk.2) (.int .u64 t676)) (fun _ h_ => h_.1)))); (case side2 => exact (Kd.R_reads' HO_15.out).2.1); rintro e w175 ⟨rfl, hb⟩; refine ⟨_, rfl, ?_⟩; have n0_ := Aside0.mk (Kd.R_below (by (with_reducible repeat (first | apply Kd.R_alloc | apply Kd.R_drewN | apply Kd.R_drew)); exact (Kd.R_mono (Kd.R_far (p := ⟨gb678, 2, none⟩) (Kd.R_far (p := ⟨gb678, 1, none⟩) (Kd.R_far (p := ⟨gb678, 0, none⟩) (Kd.R_types HO_15.out BK678.out (by decide)) (fun _ hk => hk.2) (.int .u64 t674)) (fun _ hk => hk.2) (.int .u64 t675)) (fun _ hk => hk.2) (.int .u64 t676)) (fun _ h_ => h_.1))) hb); have n1_ := bb BK630 hb; have n2_ := bb BK632 hb; have n3_ := bb BK638 hb; have n4_ := bbp (.cells #[.int .u64 t674, .int .u64 t675, .int .u64 t676] 40 (0, 0)) BK678 hb; have n5_ := bs HB hb; clear HO_15; clear BK630; clear BK632; clear BK638; clear BK678; clear HB; have HO_15 := n0_; have BK630 := n1_; have BK632 := n2_; have BK638 := n3_; have BK678 := n4_; have HB := n5_; clear n0_ n1_ n2_ n3_ n4_ n5_; (try clear hb); (try clear hb2); (try clear hk); (try clear hi); obtain ⟨hcz176_0, hcz176_1, hcz176_2, hfz176_0, hfz176_1, hfz176_2⟩ := bc3 BK678; have hnb177 := NB638_630.out; have hnc177 := NB630_638.out; obtain ⟨hcz178_0, hcz178_1, hcz178_2, hfz178_0, hfz178_1, hfz178_2⟩ := bc3 BK638))
                                go_ret
                                exact ⟨by first | rfl | (simp [errW_none, errW_some] <;> rfl) | (simp only [← hji17]; first | rfl | (simp [errW_none, errW_some] <;> rfl)) | (simp [*, errW_none, errW_some] <;> rfl), bw HB⟩
                            · rw [if_neg c147] at H
                              have c147b0 : (t679 == t633) = false := by simpa using c147
                              (try (have c147b1 : decide (t679 = t633) = false := by simpa using c147))
                              (try (have c147b2 : (t679 == t633) = false := by simpa using c147))
                              (try (have c147b3 : ¬ (t679 = t633) := by simpa using c147))
                              clear c147
                              obtain rfl := Option.some.inj H
                              have hnb179 := NB632_630.out
                              have hnc179 := NB630_632.out
                              have hnb180 := NB632_638.out
                              have hnc180 := NB638_632.out
                              obtain ⟨hcz181_0, hcz181_1, hcz181_2, hcz181_3, hcz181_4, hfz181_0, hfz181_1, hfz181_2, hfz181_3, hfz181_4⟩ := bc5 BK632
                              obtain ⟨Ao182, co182, eo182⟩ := Kd.R_slice HO_15.out
                              subst eo182
                              go_wp2_with (first | ((with_reducible refine gate_callee (f := 17) rfl ?_); refine gl (some 149) Try.func17 #[.agg #[.int .i64 a0_0, .int .u64 a0_1, .int .u64 a0_2, .int .u64 a0_3, .int .u64 a0_4], .slice Ao182 x15_3.length co182] ?_; (with_reducible refine (audit_Level.calls k3 a0_0 a0_1 a0_2 a0_3 a0_4 _ _ x15_3 t674 t675 t676 t677 _ ?side1 ?side2 A145.out).mono ?_); (case side1 => repeat (first | exact (Kd.R_reads' HO_15.out).2.2 | (with_reducible refine Kd.C_alloc ?_ _) | (with_reducible refine Kd.C_drewN ?_ _) | (with_reducible refine Kd.C_drew ?_))); (case side2 => exact (Kd.R_reads' HO_15.out).2.1); rintro e w183 ⟨rfl, hb⟩; refine ⟨_, rfl, ?_⟩; have n0_ := Aside0.mk (Kd.R_below (by (with_reducible repeat (first | apply Kd.R_alloc | apply Kd.R_drewN | apply Kd.R_drew)); exact HO_15.out) hb); have n1_ := bb BK630 hb; have n2_ := bb BK632 hb; have n3_ := bb BK638 hb; have n4_ := bs HB hb; clear HO_15; clear BK630; clear BK632; clear BK638; clear HB; have HO_15 := n0_; have BK630 := n1_; have BK632 := n2_; have BK638 := n3_; have HB := n4_; clear n0_ n1_ n2_ n3_ n4_; (try clear hb); (try clear hb2); (try clear hk); (try clear hi)) | ((with_reducible refine gate_dst (N := 17) rfl ?_); (try (refine gate_guard (by rfl) ?_; dsimp only)); refine bx 17 #[.int .u64 0, .int .u64 0, .int .u64 0] 40 ?_; intro gb678 hg w184 hbox hb; have n0_ := Aside0.mk (Kd.R_below (by (with_reducible repeat (first | apply Kd.R_alloc | apply Kd.R_drewN | apply Kd.R_drew)); exact HO_15.out) hb); have n1_ := bb BK630 hb; have n2_ := bb BK632 hb; have n3_ := bb BK638 hb; have n4_ := bs HB hb; have n5_ := Aside0.mk (hbox); have n6_ := sz HB hg; have n7_ := sz HB hg; have n8_ := nl BK630 hg; have n9_ := nr BK630 hg; have n10_ := nl BK632 hg; have n11_ := nr BK632 hg; have n12_ := nl BK638 hg; have n13_ := nr BK638 hg; clear HO_15; clear BK630; clear BK632; clear BK638; clear HB; have HO_15 := n0_; have BK630 := n1_; have BK632 := n2_; have BK638 := n3_; have HB := n4_; have BK678 := n5_; have GW678 := n6_; have GE678 := n7_; have NB630_678 := n8_; have NB678_630 := n9_; have NB632_678 := n10_; have NB678_632 := n11_; have NB638_678 := n12_; have NB678_638 := n13_; clear n0_ n1_ n2_ n3_ n4_ n5_ n6_ n7_ n8_ n9_ n10_ n11_ n12_ n13_; clear hb hbox hg; have hnb185 := NB678_630.out; have hnc185 := NB630_678.out; have hnb186 := NB678_632.out; have hnc186 := NB632_678.out; have hnb187 := NB678_638.out; have hnc187 := NB638_678.out; obtain ⟨hcz188_0, hcz188_1, hcz188_2, hfz188_0, hfz188_1, hfz188_2⟩ := bc3 BK678; obtain ⟨hcz189_0, hcz189_1, hcz189_2, hcz189_3, hcz189_4, hfz189_0, hfz189_1, hfz189_2, hfz189_3, hfz189_4⟩ := bc5 BK632) | ((with_reducible refine gate_callee (f := 12) rfl ?_); refine gl (some 154) Try.func12 #[.agg #[.int .i64 a0_0, .int .u64 a0_1, .int .u64 a0_2, .int .u64 a0_3, .int .u64 a0_4], .slice Ao182 x15_3.length co182] ?_; (with_reducible refine (audit_Conforms.calls k3 a0_0 a0_1 a0_2 a0_3 a0_4 _ _ x15_3 t679 _ ?side1 ?side2 A146.out).mono ?_); (case side1 => refine (Kd.R_reads' (e := 31) (base := w.heap.size) (ok := fun k_ => True) (n := x15_3.length) (c := co182) ?_).2.2; exact (by (with_reducible repeat (first | apply Kd.R_alloc | apply Kd.R_drewN | apply Kd.R_drew)); exact (Kd.R_mono (Kd.R_far (p := ⟨gb678, 2, none⟩) (Kd.R_far (p := ⟨gb678, 1, none⟩) (Kd.R_far (p := ⟨gb678, 0, none⟩) (Kd.R_types HO_15.out BK678.out (by decide)) (fun _ hk => hk.2) (.int .u64 t674)) (fun _ hk => hk.2) (.int .u64 t675)) (fun _ hk => hk.2) (.int .u64 t676)) (fun _ h_ => h_.1)))); (case side2 => exact (Kd.R_reads' HO_15.out).2.1); rintro e w190 ⟨rfl, hb⟩; refine ⟨_, rfl, ?_⟩; have n0_ := Aside0.mk (Kd.R_below (by (with_reducible repeat (first | apply Kd.R_alloc | apply Kd.R_drewN | apply Kd.R_drew)); exact (Kd.R_mono (Kd.R_far (p := ⟨gb678, 2, none⟩) (Kd.R_far (p := ⟨gb678, 1, none⟩) (Kd.R_far (p := ⟨gb678, 0, none⟩) (Kd.R_types HO_15.out BK678.out (by decide)) (fun _ hk => hk.2) (.int .u64 t674)) (fun _ hk => hk.2) (.int .u64 t675)) (fun _ hk => hk.2) (.int .u64 t676)) (fun _ h_ => h_.1))) hb); have n1_ := bb BK630 hb; have n2_ := bb BK632 hb; have n3_ := bb BK638 hb; have n4_ := bbp (.cells #[.int .u64 t674, .int .u64 t675, .int .u64 t676] 40 (0, 0)) BK678 hb; have n5_ := bs HB hb; clear HO_15; clear BK630; clear BK632; clear BK638; clear BK678; clear HB; have HO_15 := n0_; have BK630 := n1_; have BK632 := n2_; have BK638 := n3_; have BK678 := n4_; have HB := n5_; clear n0_ n1_ n2_ n3_ n4_ n5_; (try clear hb); (try clear hb2); (try clear hk); (try clear hi)))
                              go_ret
                              exact ⟨by first | rfl | (simp [errW_none, errW_some] <;> rfl) | (simp only [← hji17]; first | rfl | (simp [errW_none, errW_some] <;> rfl)) | (simp [*, errW_none, errW_some] <;> rfl), bw HB⟩
                    · rw [if_neg c135] at H
                      have c135b0 : (a0_0 == 2) = false := beq_eq_false_iff_ne.mpr c135
                      have c135b1 : (a0_0 != 2) = true := bne_iff_ne.mpr c135
                      obtain rfl := Option.some.inj H
                      have hnb191 := NB632_630.out
                      have hnc191 := NB630_632.out
                      have hnb192 := NB632_638.out
                      have hnc192 := NB638_632.out
                      obtain ⟨hcz193_0, hcz193_1, hcz193_2, hcz193_3, hcz193_4, hfz193_0, hfz193_1, hfz193_2, hfz193_3, hfz193_4⟩ := bc5 BK632
                      go_wp2
                      go_ret
                      exact ⟨by first | rfl | (simp [errW_none, errW_some] <;> rfl) | (simp only [← hji17]; first | rfl | (simp [errW_none, errW_some] <;> rfl)) | (simp [*, errW_none, errW_some] <;> rfl), bw HB⟩
              · rw [if_neg c19] at H
                exact absurd H (by simp)
            · rw [if_neg c18] at H
              exact absurd H (by simp)
  · replace c3 := Bool.eq_false_iff.mpr c3
    subst c3
    have H1 : (some false) = some r := by rw [if_neg (show ¬ (false = true) by decide)] at H; exact H
    clear H
    have H := H1
    clear H1
    obtain rfl := Option.some.inj H
    go_enter Try.func5, Try.ntmps5
    go_wp2_with (first | ((with_reducible refine gate_dst (N := 1) rfl ?_); (try (refine gate_guard (by rfl) ?_; dsimp only)); refine bx 1 #[.int .i64 a0_0, .int .u64 a0_1, .int .u64 a0_2, .int .u64 a0_3, .int .u64 a0_4, .slice A0_5 l0_5.length c0_5, .int .i64 a0_6, .int .u64 a0_7] 55 ?_; intro gb630 hg w194 hbox hb; have n0_ := bs HB hb; have n1_ := Aside0.mk (hbox); have n2_ := sz HB hg; have n3_ := sz HB hg; clear HB; have HB := n0_; have BK630 := n1_; have GW630 := n2_; have GE630 := n3_; clear n0_ n1_ n2_ n3_; clear hb hbox hg) | ((with_reducible refine gate_callee (f := 9) rfl ?_); refine gm (some 19) Try.func9 #[] (turnstilelaw24_awake.calls k  false _ A2.out) ?_; intro w195 hb; have n0_ := bb BK630 hb; have n1_ := bs HB hb; clear BK630; clear HB; have BK630 := n0_; have HB := n1_; clear n0_ n1_; (try clear hb); (try clear hb2); (try clear hk); (try clear hi)))
    go_ret
    exact ⟨re, bw HB⟩


end Go.Proofs.Ytdoifmefhofnnaa.D
