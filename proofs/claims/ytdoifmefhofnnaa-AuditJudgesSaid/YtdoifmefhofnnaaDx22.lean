/- Written by the session's own program hyb.py: what functions of the program compute; Lean checks it. -/
import Derived.Test.YtdoifmefhofnnaaDx0
import Derived.Test.YtdoifmefhofnnaaDx15
import Derived.Test.YtdoifmefhofnnaaDx17
import Derived.Test.YtdoifmefhofnnaaDx19
import Derived.Test.YtdoifmefhofnnaaDx21
import Derived.Maps.Own
import Derived.Maps.OwnSet
import Derived.Test.YtdoifmefhofnnaaWMaps
namespace Go.Proofs.Ytdoifmefhofnnaa.D
open Go.RowKit Go.Proofs.YtdoifmefhofnnaaW.PrintWords Go.Proofs.YtdoifmefhofnnaaW.PrintLast Go.Proofs.YtdoifmefhofnnaaW.PrintMore Go.Proofs.YtdoifmefhofnnaaW.PrintShort
attribute [local go_sem] run_Add64 run_Sub64
attribute [local go_sem] max2_int min2_int max_two min_two max_three min_three max_four min_four   -- for this text's walks alone
set_option linter.unusedVariables false
set_option linter.unusedSimpArgs false

/-! ### audit_whole: function 29 -/
-- NEEDS WMaps
-- NEEDSLIB Derived.Maps.Own
-- NEEDSLIB Derived.Maps.OwnSet
def audit_whole.f (k : Nat) (p0 p1 p2 p3 p4 : Int) (l : List S31) : Option (Int × Int × Int × Int × Int × Int × Int × Int × Int × Bool) := (policy_Valid.f p0 p1 p2 p3 p4).bind fun v => if v = true then (if p0 = 1 then ((audit_flow.f k p0 p1 p2 p3 p4 l).bind fun n => some (n.1, n.2.1, n.2.2.1, 0, 0, 0, 0, 0, 0, n.2.2.2)) else ((audit_grid.f p3 p4 l).bind fun n => some (0, 0, 0, n.1, 0, 0, (n.2.1 n.1).1, (n.2.1 n.1).2.1, (n.2.1 n.1).2.2, n.2.2))) else some (0, 0, 0, 0, 0, 0, 0, 0, 0, false)
theorem audit_whole.set9 {w W : World} {g : Nat} {a0 a1 a2 a3 a4 a5 a6 a7 a8 : Value} (h : Below w.heap.size w W) (hg : w.heap.size ≤ g) : Below w.heap.size w (((((((((W.setCell ⟨g, 0, none⟩ a0).setCell ⟨g, 1, none⟩ a1).setCell ⟨g, 2, none⟩ a2).setCell ⟨g, 3, none⟩ a3).setCell ⟨g, 4, none⟩ a4).setCell ⟨g, 5, none⟩ a5).setCell ⟨g, 6, none⟩ a6).setCell ⟨g, 7, none⟩ a7).setCell ⟨g, 8, none⟩ a8) :=
  below_set (below_set (below_set (below_set (below_set (below_set (below_set (below_set (below_set h hg) hg) hg) hg) hg) hg) hg) hg) hg
theorem audit_whole.mono : ∀ p0 p1 p2 p3 p4 l k, LeO (audit_whole.f k p0 p1 p2 p3 p4 l) (audit_whole.f (k + 1) p0 p1 p2 p3 p4 l) := by
  intro p0 p1 p2 p3 p4 l k
  unfold audit_whole.f
  exact LeO.bind (LeO.refl _) (fun v => LeO.ite (LeO.ite (LeO.bind (audit_flow.mono p0 p1 p2 p3 p4 l k) (fun _ => LeO.refl _)) (LeO.refl _)) (LeO.refl _))
def gr.T7 : Bool × List (List Nat × List Nat) := (true, [([], []), ([], []), ([1], [1]), ([2], [2]), ([], []), ([4], [4]), ([], []), ([6], [6]), ([5, 7], [5, 7]), ([0, 3, 8], [0, 3, 8]), ([], []), ([9, 3, 0, 1, 2, 3, 4, 5, 6, 7, 8, 9], [9]), ([10, 11, 0, 1, 2, 3, 4, 5, 6, 7, 8, 9, 10, 11], [10])])
def gr.B7 : List Nat := [0, 0, 2, 6, 0, 16, 0, 64, 240, 511, 0, 1023, 4095]
theorem gr.tab7 : rtab .any (opsOf Try.f29 7) = gr.T7 := by kernel_rfl
theorem gr.bits7 : waitsOk gr.T7.2 gr.B7 = true := by kernel_rfl
theorem gr.MapN_below {W W2 : World} {gm n : Nat} {m : Int → Int × Int × Int} (h : gr.MapN W gm n m) (k : Below W.heap.size W W2) : gr.MapN W2 gm n m := gr.MapN_same h (k.block gm (gr.MapN_lt h))
theorem gr.over_wf {p4 l0 l1 l2 : Int} : ∀ (l : List S31) (last : Int) (m : Int → Int × Int × Int) (last' : Int) (m' : Int → Int × Int × Int) (ok : Bool), (Lit.int .u64 last).wf = true → gr.over p4 l0 l1 l2 l last m = some (last', m', ok) → (Lit.int .u64 last').wf = true
  | [], last, m, last', m', ok, hw, h => by
    simp only [gr.over, Option.some.injEq, Prod.mk.injEq] at h
    rw [← h.1]
    exact hw
  | e :: es, last, m, last', m', ok, hw, h => by
    unfold gr.over at h
    by_cases c : e.f1 = 0
    · rw [if_pos c] at h
      simp only [Option.some.injEq, Prod.mk.injEq] at h
      rw [← h.1]
      exact hw
    · rw [if_neg c] at h
      obtain ⟨s, _, h⟩ := Option.bind_eq_some_iff.mp h
      obtain ⟨b, _, h⟩ := Option.bind_eq_some_iff.mp h
      by_cases d : b = true
      · rw [if_pos d] at h
        simp only [Option.some.injEq, Prod.mk.injEq] at h
        rw [← h.1]
        exact hw
      · rw [if_neg d] at h
        refine gr.over_wf es _ _ last' m' ok ?_ h
        split
        · exact gr.wrap_wf _
        · exact hw
theorem gr.set9 {w W : World} {g : Nat} {a0 a1 a2 a3 a4 a5 a6 a7 a8 : Value} (h : Below w.heap.size w W) (hg : w.heap.size ≤ g) : Below w.heap.size w (((((((((W.setCell ⟨g, 0, none⟩ a0).setCell ⟨g, 1, none⟩ a1).setCell ⟨g, 2, none⟩ a2).setCell ⟨g, 3, none⟩ a3).setCell ⟨g, 4, none⟩ a4).setCell ⟨g, 5, none⟩ a5).setCell ⟨g, 6, none⟩ a6).setCell ⟨g, 7, none⟩ a7).setCell ⟨g, 8, none⟩ a8) :=
  below_set (below_set (below_set (below_set (below_set (below_set (below_set (below_set (below_set h hg) hg) hg) hg) hg) hg) hg) hg) hg
set_option maxHeartbeats 4000000 in
set_option maxRecDepth 100000 in
theorem audit_grid.whole (p0 p1 p2 p3 p4 : Int) (A : Option Addr) (c : Nat) (l : List S31) (last' : Int) (m' : Int → Int × Int × Int) (ok : Bool) (w : World) (hr : Kd.C k31 w A l.length l) (hc : l.length ≤ c) (hv : policy_Valid.f p0 p1 p2 p3 p4 = some true) (h1 : p0 ≠ 1) (h : audit_grid.f p3 p4 l = some (last', m', ok)) :
    Calls Try.prog 29 #[.agg #[.int .i64 p0, .int .u64 p1, .int .u64 p2, .int .u64 p3, .int .u64 p4], .slice A l.length c] w fun e w' => e = .returned (.tuple #[.agg #[.int .u64 0, .int .u64 0, .int .u64 0, .int .u64 last', .int .u64 0, .int .u64 0, .int .u64 (m' last').1, .int .u64 (m' last').2.1, .int .u64 (m' last').2.2], .bool ok]) ∧ Below w.heap.size w w' := by
  have hx : (Lit.int .u64 last').wf = true := by
    unfold audit_grid.f at h
    split at h
    · cases h
    · split at h
      · exact gr.over_wf l 0 _ last' m' ok (by decide) h
      · cases h
  have HX := Aside0.mk hx
  have HB := Aside0.mk (Below.refl w.heap.size w)
  have HR := Aside0.mk hr
  have HC := Aside0.mk hc
  have F := Aside0.mk hv
  have G := Aside0.mk h
  have c1b : (p0 == 1) = false := beq_eq_false_iff_ne.mpr h1
  clear hr hc hv h h1 hx
  have hu := Try.underlying77
  have hv := Try.underlying24
  have hy := Try.underlying109
  go_enter Try.func29, Try.ntmps29
  go_upto_region 7 with (first | ((with_reducible refine gate_dst (N := 2) rfl ?_); refine bx 2 #[.int .i64 p0, .int .u64 p1, .int .u64 p2, .int .u64 p3, .int .u64 p4] 24 ?_; intro gp hg w_gp hbox hb; have n0_ := bs HB hb; have GEgp := sz HB hg; clear HB ; have HB := n0_; clear n0_; have BKgp := Aside0.mk hbox; clear hb hbox hg; obtain ⟨hcgpa_0, hcgpa_1, hcgpa_2, hcgpa_3, hcgpa_4, hfgpa_0, hfgpa_1, hfgpa_2, hfgpa_3, hfgpa_4⟩ := bc5 BKgp) | ((with_reducible refine gate_dst (N := 4) rfl ?_); refine bx 4 #[.int .u64 0, .int .u64 0, .int .u64 0, .int .u64 0, .int .u64 0, .int .u64 0, .int .u64 0, .int .u64 0, .int .u64 0] 77 ?_; intro g4 hg w_g4 hbox hb; have n_gp := bb BKgp hb; have e1_gp := nl BKgp hg; have e2_gp := nr BKgp hg; have n0_ := bs HB hb; have GEg4 := sz HB hg; clear HB BKgp; have HB := n0_; clear n0_; have BKgp := n_gp; clear n_gp; have NEgp_g4 := e1_gp; have NEg4_gp := e2_gp; clear e1_gp e2_gp; have BKg4 := Aside0.mk hbox; clear hb hbox hg; have hgp_g4 := NEgp_g4.out; have hg4_gp := NEg4_gp.out; obtain ⟨hcgpb_0, hcgpb_1, hcgpb_2, hcgpb_3, hcgpb_4, hfgpb_0, hfgpb_1, hfgpb_2, hfgpb_3, hfgpb_4⟩ := bc5 BKgp) | (go_at_call 24; refine (policy_Valid.calls p0 p1 p2 p3 p4 true _ F.out).mono ?_; rintro e w5 ⟨rfl, hb⟩; have n_gp := bb BKgp hb; have n_g4 := bb BKg4 hb; have n0_ := bs HB hb; clear HB hb BKgp BKg4; have HB := n0_; clear n0_; have BKgp := n_gp; clear n_gp; have BKg4 := n_g4; clear n_g4; obtain ⟨hcgpc_0, hcgpc_1, hcgpc_2, hcgpc_3, hcgpc_4, hfgpc_0, hfgpc_1, hfgpc_2, hfgpc_3, hfgpc_4⟩ := bc5 BKgp) | (go_at_call 39; refine (audit_grid.calls p0 p1 p2 p3 p4 _ _ l last' m' ok _ (Kd.C_below HR.out (bw HB)) HC.out G.out).mono ?_; rintro e w6 ⟨gm, n5, rfl, hb, hmp⟩; have n_gp := bb BKgp hb; have n_g4 := bb BKg4 hb; have n0_ := bs HB hb; clear HB hb BKgp BKg4; have HB := n0_; clear n0_; have BKgp := n_gp; clear n_gp; have BKg4 := n_g4; clear n_g4; have HMP := Aside0.mk hmp; clear hmp) | ((with_reducible refine gate_dst (N := 8) rfl ?_); refine bx 8 #[.map none, .int .u64 0] 109 ?_; intro g8 hg w_g8 hbox hb; have n_gp := bb BKgp hb; have e1_gp := nl BKgp hg; have e2_gp := nr BKgp hg; have n_g4 := bb BKg4 hb; have e1_g4 := nl BKg4 hg; have e2_g4 := nr BKg4 hg; have n0_ := bs HB hb; have GEg8 := sz HB hg; clear HB BKgp BKg4; have HB := n0_; clear n0_; have BKgp := n_gp; clear n_gp; have NEgp_g8 := e1_gp; have NEg8_gp := e2_gp; clear e1_gp e2_gp; have BKg4 := n_g4; clear n_g4; have NEg4_g8 := e1_g4; have NEg8_g4 := e2_g4; clear e1_g4 e2_g4; have BKg8 := Aside0.mk hbox; have n_m := Aside0.mk (gr.MapN_below HMP.out hb); clear HMP; have HMP := n_m; clear n_m; clear hb hbox hg; obtain ⟨hcg8d_0, hcg8d_1, hfg8d_0, hfg8d_1⟩ := bc2 BKg8))
  have NM8 := (gr.MapN_ne HMP.out BKg8.out).symm
  have BK8 := Aside0.mk (gr.put2 BKg8.out (a' := .map (some gm)) (b' := .int .u64 last'))
  have HM8 := Aside0.mk (gr.MapN_set (i := 1) (gr.MapN_set (i := 0) HMP.out NM8 (.map (some gm))) NM8 (.int .u64 last'))
  have B4 := Aside0.mk (blk_far (blk_far BKg4.out NEg4_g8.out (p := ⟨g8, 0, none⟩) (.map (some gm))) NEg4_g8.out (p := ⟨g8, 1, none⟩) (.int .u64 last'))
  have HB8 : Aside0 (Below w.heap.size w ((w_g8.setCell ⟨g8, 0, none⟩ (.map (some gm))).setCell ⟨g8, 1, none⟩ (.int .u64 last'))) := ⟨bw HB⟩
  clear HB BKg4 BKg8 HMP BKgp
  generalize (w_g8.setCell ⟨g8, 0, none⟩ (.map (some gm))).setCell ⟨g8, 1, none⟩ (.int .u64 last') = w9 at BK8 HM8 B4 HB8 ⊢
  clear hcg8d_0 hcg8d_1 hfg8d_0 hfg8d_1
  have BK8 := Aside0.mk (blk_drew BK8.out)
  have B4 := Aside0.mk (blk_drew B4.out)
  have HM8 := Aside0.mk (gr.MapN_below HM8.out (below_drew1 (Below.refl _ _)))
  have HB8 := Aside0.mk (below_drew1 HB8.out)
  refine start_ (n := 13) (S := fun w' => w'.cell? ⟨g8, 0, none⟩ = some (.map (some gm)) ∧ w'.cell? ⟨g8, 1, none⟩ = some (.int .u64 last') ∧ (Instr.lookup 107 (.map (some gm)) (.int .u64 last') false).run Try.prog w' = .ok (.agg #[.int .u64 (m' last').1, .int .u64 (m' last').2.1, .int .u64 (m' last').2.2]) w') (ds := []) #[false, false, false, false, false, false, false, false, false, false, false, false, false] (by kernel_rfl) rfl rfl ⟨(blk_cell BK8.out 0).trans rfl, (blk_cell BK8.out 1).trans rfl, gr.look HM8.out last' HX.out⟩ (fun hHeld => ?_); refine with_tabW gr.tab7 gr.bits7 (fun HT_ HW_ => ?_)
  generalize w9.drew = w10 at BK8 HM8 B4 HB8 hHeld ⊢
  refine chain_ (fuel := 4) [(0, 0, some 32), (1, 0, some 33), (4, 0, some 36), (6, 0, some 38), (10, 0, some 42), (2, 1, some 34), (5, 1, some 37), (7, 1, some 39), (8, 1, some 40)] #[true, true, true, false, true, true, true, true, true, false, true, false, false] HT_.out HW_.out (by kernel_rfl) (fun _ _ _ _ _ h => h) (Or.inr hHeld) rfl ?_
  (iterate 5 refine lkP ?_); (iterate 4 refine lkT ?_); refine .nil ?_
  refine one_ (i := 3) (N := some 35) #[true, true, true, true, true, true, true, true, true, false, true, false, false] rfl rfl (one_of HT_.out (by kernel_rfl)) (by decide) (fun K hK => ?_)
  refine ge Try.func40 #[.int .u64 last'] ?_
  with_reducible refine (audit_of.calls last' last' 0 0 _ (gr.of_u last')).mono ?_
  rintro e wv ⟨rfl, hb⟩
  refine ⟨_, rfl, ?_⟩
  have BK8 := bb BK8 hb
  have B4 := bb B4 hb
  have HM8 := Aside0.mk (gr.MapN_below HM8.out hb)
  have HB8 := bs HB8 hb
  clear hb
  refine hK.out _ _ ⟨(blk_cell BK8.out 0).trans rfl, (blk_cell BK8.out 1).trans rfl, gr.look HM8.out last' HX.out⟩ (fun hHeld => ?_)
  clear hK K
  refine norm_ (a' := ?_) ?_ ?_
  rotate_left
  · show Act.put _ (some 35) _ = _
    simp only [Act.put, List.setIfInBounds_toArray, List.set_cons_zero, List.set_cons_succ, i64_w, i32_w]
    rfl
  refine chain_ (fuel := 2) [(9, 0, some 41)] #[true, true, true, true, true, true, true, true, true, true, true, false, false] HT_.out HW_.out (by kernel_rfl) (fun _ _ _ _ _ h => h) (Or.inl (by decide)) rfl ?_
  refine lkP ?_; refine .nil ?_
  refine one_ (i := 11) (N := none) #[true, true, true, true, true, true, true, true, true, true, true, true, false] rfl rfl (one_of HT_.out (by kernel_rfl)) (by decide) (fun K hK => ?_)
  refine skip_ (w1 := ?_) (by rfl) rfl ?_ ?_
  rotate_left
  · refine Eq.trans (run_row_ ?v_ty ?v_x ?v_y ?v_cells B4.out ?v_1 ?v_2 ?v_3 ?v_4 ?v_5 ?v_6) ?v_7
    case v_1 => rfl
    case v_2 => rfl
    case v_3 => rfl
    case v_4 => exact Nat.le_refl _
    case v_5 => kernel_rfl
    case v_6 => first | (simp [Value.oneCell']; done) | kernel_rfl
    simp only [World.setCells, Nat.zero_add, Nat.reduceAdd]
    rfl
  have N84 : g8 ≠ g4 := NEg8_g4.out
  have NM4 := (gr.MapN_ne HM8.out B4.out).symm
  have BK8 := Aside0.mk (far9_ BK8.out N84 (b0 := .int .u64 0) (b1 := .int .u64 0) (b2 := .int .u64 0) (b3 := .int .u64 last') (b4 := .int .u64 0) (b5 := .int .u64 0) (b6 := .int .u64 (m' last').1) (b7 := .int .u64 (m' last').2.1) (b8 := .int .u64 (m' last').2.2))
  have HM8 := Aside0.mk (gr.MapN_set (i := 8) (gr.MapN_set (i := 7) (gr.MapN_set (i := 6) (gr.MapN_set (i := 5) (gr.MapN_set (i := 4) (gr.MapN_set (i := 3) (gr.MapN_set (i := 2) (gr.MapN_set (i := 1) (gr.MapN_set (i := 0) HM8.out NM4 (.int .u64 0)) NM4 (.int .u64 0)) NM4 (.int .u64 0)) NM4 (.int .u64 last')) NM4 (.int .u64 0)) NM4 (.int .u64 0)) NM4 (.int .u64 (m' last').1)) NM4 (.int .u64 (m' last').2.1)) NM4 (.int .u64 (m' last').2.2))
  refine hK.out _ _ ⟨(blk_cell BK8.out 0).trans rfl, (blk_cell BK8.out 1).trans rfl, gr.look HM8.out last' HX.out⟩ (fun hHeld => ?_)
  clear hK K
  refine chain_ (fuel := 0) [(12, 0, some 5)] #[true, true, true, true, true, true, true, true, true, true, true, true, true] HT_.out HW_.out (by kernel_rfl) (fun _ _ _ _ _ h => h) (Or.inl (by decide)) rfl ?_
  refine lkP ?_; refine .nil ?_
  refine done_ (done_of HT_.out (by kernel_rfl)) ?_
  have E4 := put9_ B4.out (b0 := .int .u64 0) (b1 := .int .u64 0) (b2 := .int .u64 0) (b3 := .int .u64 last') (b4 := .int .u64 0) (b5 := .int .u64 0) (b6 := .int .u64 (m' last').1) (b7 := .int .u64 (m' last').2.1) (b8 := .int .u64 (m' last').2.2)
  have EB := gr.set9 HB8.out GEg4.out (a0 := .int .u64 0) (a1 := .int .u64 0) (a2 := .int .u64 0) (a3 := .int .u64 last') (a4 := .int .u64 0) (a5 := .int .u64 0) (a6 := .int .u64 (m' last').1) (a7 := .int .u64 (m' last').2.1) (a8 := .int .u64 (m' last').2.2)
  clear hHeld HM8 BK8
  try go_wp2
  refine bodyPost_ret (results_ct rfl _ _ g4 77 #[.int .u64 0, .int .u64 0, .int .u64 0, .int .u64 last', .int .u64 0, .int .u64 0, .int .u64 (m' last').1, .int .u64 (m' last').2.1, .int .u64 (m' last').2.2] (0, 0) _ rfl ?hbk hu rfl (by kernel_rfl)) rfl ?_
  case hbk => exact E4
  exact ⟨rfl, EB⟩
set_option maxHeartbeats 1600000 in
set_option maxRecDepth 100000 in
theorem audit_whole.calls (k : Nat) (p0 p1 p2 p3 p4 : Int) (A : Option Addr) (c : Nat) (l : List S31) (r1 r2 r3 r4 r5 r6 r7 r8 r9 : Int) (r10 : Bool) (w : World) (hr : Kd.C k31 w A l.length l) (hc : l.length ≤ c) (h : audit_whole.f k p0 p1 p2 p3 p4 l = some (r1, r2, r3, r4, r5, r6, r7, r8, r9, r10)) :
    Calls Try.prog 29 #[.agg #[.int .i64 p0, .int .u64 p1, .int .u64 p2, .int .u64 p3, .int .u64 p4], .slice A l.length c] w fun e w' => e = .returned (.tuple #[.agg #[.int .u64 r1, .int .u64 r2, .int .u64 r3, .int .u64 r4, .int .u64 r5, .int .u64 r6, .int .u64 r7, .int .u64 r8, .int .u64 r9], .bool r10]) ∧ Below w.heap.size w w' := by
  have HB := Aside0.mk (Below.refl w.heap.size w)
  have HR := Aside0.mk hr
  have HC := Aside0.mk hc
  clear hr hc
  have hu := Try.underlying77
  have hv := Try.underlying24
  unfold audit_whole.f at h
  obtain ⟨v, F, h⟩ := Option.bind_eq_some_iff.mp h
  have F := Aside0.mk F
  cases v with
  | false =>
    rw [if_neg (by decide)] at h
    simp only [Option.some.injEq, Prod.mk.injEq] at h
    obtain ⟨rfl, rfl, rfl, rfl, rfl, rfl, rfl, rfl, rfl, rfl⟩ := h
    go_enter Try.func29, Try.ntmps29
    go_wp2_with (first | ((with_reducible refine gate_dst (N := 2) rfl ?_); refine bx 2 #[.int .i64 p0, .int .u64 p1, .int .u64 p2, .int .u64 p3, .int .u64 p4] 24 ?_; intro gp hg w_gp hbox hb; have n0_ := bs HB hb; have GEgp := sz HB hg; clear HB ; have HB := n0_; clear n0_; have BKgp := Aside0.mk hbox; clear hb hbox hg; obtain ⟨hcgpa_0, hcgpa_1, hcgpa_2, hcgpa_3, hcgpa_4, hfgpa_0, hfgpa_1, hfgpa_2, hfgpa_3, hfgpa_4⟩ := bc5 BKgp) | ((with_reducible refine gate_dst (N := 4) rfl ?_); refine bx 4 #[.int .u64 0, .int .u64 0, .int .u64 0, .int .u64 0, .int .u64 0, .int .u64 0, .int .u64 0, .int .u64 0, .int .u64 0] 77 ?_; intro g4 hg w_g4 hbox hb; have n_gp := bb BKgp hb; have e1_gp := nl BKgp hg; have e2_gp := nr BKgp hg; have n0_ := bs HB hb; have GEg4 := sz HB hg; clear HB BKgp; have HB := n0_; clear n0_; have BKgp := n_gp; clear n_gp; have NEgp_g4 := e1_gp; have NEg4_gp := e2_gp; clear e1_gp e2_gp; have BKg4 := Aside0.mk hbox; clear hb hbox hg; have hgp_g4 := NEgp_g4.out; have hg4_gp := NEg4_gp.out; obtain ⟨hcgpb_0, hcgpb_1, hcgpb_2, hcgpb_3, hcgpb_4, hfgpb_0, hfgpb_1, hfgpb_2, hfgpb_3, hfgpb_4⟩ := bc5 BKgp; have hcg4b_0 : World.cell? _ ⟨g4, 0, none⟩ = some _ := (blk_cell BKg4.out 0).trans rfl; have hfg4b_0 := blk_frozen BKg4.out 0; have hcg4b_1 : World.cell? _ ⟨g4, 1, none⟩ = some _ := (blk_cell BKg4.out 1).trans rfl; have hfg4b_1 := blk_frozen BKg4.out 1; have hcg4b_2 : World.cell? _ ⟨g4, 2, none⟩ = some _ := (blk_cell BKg4.out 2).trans rfl; have hfg4b_2 := blk_frozen BKg4.out 2; have hcg4b_3 : World.cell? _ ⟨g4, 3, none⟩ = some _ := (blk_cell BKg4.out 3).trans rfl; have hfg4b_3 := blk_frozen BKg4.out 3; have hcg4b_4 : World.cell? _ ⟨g4, 4, none⟩ = some _ := (blk_cell BKg4.out 4).trans rfl; have hfg4b_4 := blk_frozen BKg4.out 4; have hcg4b_5 : World.cell? _ ⟨g4, 5, none⟩ = some _ := (blk_cell BKg4.out 5).trans rfl; have hfg4b_5 := blk_frozen BKg4.out 5; have hcg4b_6 : World.cell? _ ⟨g4, 6, none⟩ = some _ := (blk_cell BKg4.out 6).trans rfl; have hfg4b_6 := blk_frozen BKg4.out 6; have hcg4b_7 : World.cell? _ ⟨g4, 7, none⟩ = some _ := (blk_cell BKg4.out 7).trans rfl; have hfg4b_7 := blk_frozen BKg4.out 7; have hcg4b_8 : World.cell? _ ⟨g4, 8, none⟩ = some _ := (blk_cell BKg4.out 8).trans rfl; have hfg4b_8 := blk_frozen BKg4.out 8) | (go_at_call 24; refine (policy_Valid.calls p0 p1 p2 p3 p4 false _ F.out).mono ?_; rintro e w5 ⟨rfl, hb⟩; have n_gp := bb BKgp hb; have n_g4 := bb BKg4 hb; have n0_ := bs HB hb; clear HB hb BKgp BKg4; have HB := n0_; clear n0_; have BKgp := n_gp; clear n_gp; have BKg4 := n_g4; clear n_g4; have hcg4c_0 : World.cell? _ ⟨g4, 0, none⟩ = some _ := (blk_cell BKg4.out 0).trans rfl; have hfg4c_0 := blk_frozen BKg4.out 0; have hcg4c_1 : World.cell? _ ⟨g4, 1, none⟩ = some _ := (blk_cell BKg4.out 1).trans rfl; have hfg4c_1 := blk_frozen BKg4.out 1; have hcg4c_2 : World.cell? _ ⟨g4, 2, none⟩ = some _ := (blk_cell BKg4.out 2).trans rfl; have hfg4c_2 := blk_frozen BKg4.out 2; have hcg4c_3 : World.cell? _ ⟨g4, 3, none⟩ = some _ := (blk_cell BKg4.out 3).trans rfl; have hfg4c_3 := blk_frozen BKg4.out 3; have hcg4c_4 : World.cell? _ ⟨g4, 4, none⟩ = some _ := (blk_cell BKg4.out 4).trans rfl; have hfg4c_4 := blk_frozen BKg4.out 4; have hcg4c_5 : World.cell? _ ⟨g4, 5, none⟩ = some _ := (blk_cell BKg4.out 5).trans rfl; have hfg4c_5 := blk_frozen BKg4.out 5; have hcg4c_6 : World.cell? _ ⟨g4, 6, none⟩ = some _ := (blk_cell BKg4.out 6).trans rfl; have hfg4c_6 := blk_frozen BKg4.out 6; have hcg4c_7 : World.cell? _ ⟨g4, 7, none⟩ = some _ := (blk_cell BKg4.out 7).trans rfl; have hfg4c_7 := blk_frozen BKg4.out 7; have hcg4c_8 : World.cell? _ ⟨g4, 8, none⟩ = some _ := (blk_cell BKg4.out 8).trans rfl; have hfg4c_8 := blk_frozen BKg4.out 8))
    refine bodyPost_ret (results_ct rfl _ _ g4 77 #[.int .u64 0, .int .u64 0, .int .u64 0, .int .u64 0, .int .u64 0, .int .u64 0, .int .u64 0, .int .u64 0, .int .u64 0] (0, 0) _ rfl ?hbk hu rfl (by kernel_rfl)) rfl ?_
    case hbk => exact put9_ (bk (o := .cells #[.int .u64 0, .int .u64 0, .int .u64 0, .int .u64 0, .int .u64 0, .int .u64 0, .int .u64 0, .int .u64 0, .int .u64 0] 77 (0, 0)) BKg4)
    exact ⟨rfl, audit_whole.set9 (bw HB) GEg4.out⟩
  | true =>
    rw [if_pos rfl] at h
    by_cases c1 : p0 = 1
    · rw [if_pos c1] at h
      have c1b : (p0 == 1) = true := beq_iff_eq.mpr c1
      obtain ⟨⟨n0, n1, n2, n3⟩, G, h⟩ := Option.bind_eq_some_iff.mp h
      have G := Aside0.mk G
      simp only [Option.some.injEq, Prod.mk.injEq] at h
      obtain ⟨rfl, rfl, rfl, rfl, rfl, rfl, rfl, rfl, rfl, rfl⟩ := h
      clear c1
      go_enter Try.func29, Try.ntmps29
      go_wp2_with (first | ((with_reducible refine gate_dst (N := 2) rfl ?_); refine bx 2 #[.int .i64 p0, .int .u64 p1, .int .u64 p2, .int .u64 p3, .int .u64 p4] 24 ?_; intro gp hg w_gp hbox hb; have n0_ := bs HB hb; have GEgp := sz HB hg; clear HB ; have HB := n0_; clear n0_; have BKgp := Aside0.mk hbox; clear hb hbox hg; obtain ⟨hcgpa_0, hcgpa_1, hcgpa_2, hcgpa_3, hcgpa_4, hfgpa_0, hfgpa_1, hfgpa_2, hfgpa_3, hfgpa_4⟩ := bc5 BKgp) | ((with_reducible refine gate_dst (N := 4) rfl ?_); refine bx 4 #[.int .u64 0, .int .u64 0, .int .u64 0, .int .u64 0, .int .u64 0, .int .u64 0, .int .u64 0, .int .u64 0, .int .u64 0] 77 ?_; intro g4 hg w_g4 hbox hb; have n_gp := bb BKgp hb; have e1_gp := nl BKgp hg; have e2_gp := nr BKgp hg; have n0_ := bs HB hb; have GEg4 := sz HB hg; clear HB BKgp; have HB := n0_; clear n0_; have BKgp := n_gp; clear n_gp; have NEgp_g4 := e1_gp; have NEg4_gp := e2_gp; clear e1_gp e2_gp; have BKg4 := Aside0.mk hbox; clear hb hbox hg; have hgp_g4 := NEgp_g4.out; have hg4_gp := NEg4_gp.out; obtain ⟨hcgpb_0, hcgpb_1, hcgpb_2, hcgpb_3, hcgpb_4, hfgpb_0, hfgpb_1, hfgpb_2, hfgpb_3, hfgpb_4⟩ := bc5 BKgp; have hcg4b_0 : World.cell? _ ⟨g4, 0, none⟩ = some _ := (blk_cell BKg4.out 0).trans rfl; have hfg4b_0 := blk_frozen BKg4.out 0; have hcg4b_1 : World.cell? _ ⟨g4, 1, none⟩ = some _ := (blk_cell BKg4.out 1).trans rfl; have hfg4b_1 := blk_frozen BKg4.out 1; have hcg4b_2 : World.cell? _ ⟨g4, 2, none⟩ = some _ := (blk_cell BKg4.out 2).trans rfl; have hfg4b_2 := blk_frozen BKg4.out 2; have hcg4b_3 : World.cell? _ ⟨g4, 3, none⟩ = some _ := (blk_cell BKg4.out 3).trans rfl; have hfg4b_3 := blk_frozen BKg4.out 3; have hcg4b_4 : World.cell? _ ⟨g4, 4, none⟩ = some _ := (blk_cell BKg4.out 4).trans rfl; have hfg4b_4 := blk_frozen BKg4.out 4; have hcg4b_5 : World.cell? _ ⟨g4, 5, none⟩ = some _ := (blk_cell BKg4.out 5).trans rfl; have hfg4b_5 := blk_frozen BKg4.out 5; have hcg4b_6 : World.cell? _ ⟨g4, 6, none⟩ = some _ := (blk_cell BKg4.out 6).trans rfl; have hfg4b_6 := blk_frozen BKg4.out 6; have hcg4b_7 : World.cell? _ ⟨g4, 7, none⟩ = some _ := (blk_cell BKg4.out 7).trans rfl; have hfg4b_7 := blk_frozen BKg4.out 7; have hcg4b_8 : World.cell? _ ⟨g4, 8, none⟩ = some _ := (blk_cell BKg4.out 8).trans rfl; have hfg4b_8 := blk_frozen BKg4.out 8) | (go_at_call 24; refine (policy_Valid.calls p0 p1 p2 p3 p4 true _ F.out).mono ?_; rintro e w5 ⟨rfl, hb⟩; have n_gp := bb BKgp hb; have n_g4 := bb BKg4 hb; have n0_ := bs HB hb; clear HB hb BKgp BKg4; have HB := n0_; clear n0_; have BKgp := n_gp; clear n_gp; have BKg4 := n_g4; clear n_g4; obtain ⟨hcgpc_0, hcgpc_1, hcgpc_2, hcgpc_3, hcgpc_4, hfgpc_0, hfgpc_1, hfgpc_2, hfgpc_3, hfgpc_4⟩ := bc5 BKgp; have hcg4c_0 : World.cell? _ ⟨g4, 0, none⟩ = some _ := (blk_cell BKg4.out 0).trans rfl; have hfg4c_0 := blk_frozen BKg4.out 0; have hcg4c_1 : World.cell? _ ⟨g4, 1, none⟩ = some _ := (blk_cell BKg4.out 1).trans rfl; have hfg4c_1 := blk_frozen BKg4.out 1; have hcg4c_2 : World.cell? _ ⟨g4, 2, none⟩ = some _ := (blk_cell BKg4.out 2).trans rfl; have hfg4c_2 := blk_frozen BKg4.out 2; have hcg4c_3 : World.cell? _ ⟨g4, 3, none⟩ = some _ := (blk_cell BKg4.out 3).trans rfl; have hfg4c_3 := blk_frozen BKg4.out 3; have hcg4c_4 : World.cell? _ ⟨g4, 4, none⟩ = some _ := (blk_cell BKg4.out 4).trans rfl; have hfg4c_4 := blk_frozen BKg4.out 4; have hcg4c_5 : World.cell? _ ⟨g4, 5, none⟩ = some _ := (blk_cell BKg4.out 5).trans rfl; have hfg4c_5 := blk_frozen BKg4.out 5; have hcg4c_6 : World.cell? _ ⟨g4, 6, none⟩ = some _ := (blk_cell BKg4.out 6).trans rfl; have hfg4c_6 := blk_frozen BKg4.out 6; have hcg4c_7 : World.cell? _ ⟨g4, 7, none⟩ = some _ := (blk_cell BKg4.out 7).trans rfl; have hfg4c_7 := blk_frozen BKg4.out 7; have hcg4c_8 : World.cell? _ ⟨g4, 8, none⟩ = some _ := (blk_cell BKg4.out 8).trans rfl; have hfg4c_8 := blk_frozen BKg4.out 8) | (go_at_call 38; refine (audit_flow.calls k p0 p1 p2 p3 p4 _ _ l n0 n1 n2 n3 _ (Kd.C_below HR.out (bw HB)) HC.out G.out).mono ?_; rintro e w6 ⟨rfl, hb⟩; have n_gp := bb BKgp hb; have n_g4 := bb BKg4 hb; have n0_ := bs HB hb; clear HB hb BKgp BKg4; have HB := n0_; clear n0_; have BKgp := n_gp; clear n_gp; have BKg4 := n_g4; clear n_g4; have hcg4d_0 : World.cell? _ ⟨g4, 0, none⟩ = some _ := (blk_cell BKg4.out 0).trans rfl; have hfg4d_0 := blk_frozen BKg4.out 0; have hcg4d_1 : World.cell? _ ⟨g4, 1, none⟩ = some _ := (blk_cell BKg4.out 1).trans rfl; have hfg4d_1 := blk_frozen BKg4.out 1; have hcg4d_2 : World.cell? _ ⟨g4, 2, none⟩ = some _ := (blk_cell BKg4.out 2).trans rfl; have hfg4d_2 := blk_frozen BKg4.out 2; have hcg4d_3 : World.cell? _ ⟨g4, 3, none⟩ = some _ := (blk_cell BKg4.out 3).trans rfl; have hfg4d_3 := blk_frozen BKg4.out 3; have hcg4d_4 : World.cell? _ ⟨g4, 4, none⟩ = some _ := (blk_cell BKg4.out 4).trans rfl; have hfg4d_4 := blk_frozen BKg4.out 4; have hcg4d_5 : World.cell? _ ⟨g4, 5, none⟩ = some _ := (blk_cell BKg4.out 5).trans rfl; have hfg4d_5 := blk_frozen BKg4.out 5; have hcg4d_6 : World.cell? _ ⟨g4, 6, none⟩ = some _ := (blk_cell BKg4.out 6).trans rfl; have hfg4d_6 := blk_frozen BKg4.out 6; have hcg4d_7 : World.cell? _ ⟨g4, 7, none⟩ = some _ := (blk_cell BKg4.out 7).trans rfl; have hfg4d_7 := blk_frozen BKg4.out 7; have hcg4d_8 : World.cell? _ ⟨g4, 8, none⟩ = some _ := (blk_cell BKg4.out 8).trans rfl; have hfg4d_8 := blk_frozen BKg4.out 8) | ((with_reducible refine gate_dst (N := 6) rfl ?_); refine bx 6 #[.int .u64 0, .int .u64 0, .int .u64 0] 76 ?_; intro g6 hg w_g6 hbox hb; have n_gp := bb BKgp hb; have e1_gp := nl BKgp hg; have e2_gp := nr BKgp hg; have n_g4 := bb BKg4 hb; have e1_g4 := nl BKg4 hg; have e2_g4 := nr BKg4 hg; have n0_ := bs HB hb; have GEg6 := sz HB hg; clear HB BKgp BKg4; have HB := n0_; clear n0_; have BKgp := n_gp; clear n_gp; have NEgp_g6 := e1_gp; have NEg6_gp := e2_gp; clear e1_gp e2_gp; have BKg4 := n_g4; clear n_g4; have NEg4_g6 := e1_g4; have NEg6_g4 := e2_g4; clear e1_g4 e2_g4; have BKg6 := Aside0.mk hbox; clear hb hbox hg; obtain ⟨hcg6e_0, hcg6e_1, hcg6e_2, hfg6e_0, hfg6e_1, hfg6e_2⟩ := bc3 BKg6; have hg4_g6 := NEg4_g6.out; have hg6_g4 := NEg6_g4.out; have hcg4e_0 : World.cell? _ ⟨g4, 0, none⟩ = some _ := (blk_cell BKg4.out 0).trans rfl; have hfg4e_0 := blk_frozen BKg4.out 0; have hcg4e_1 : World.cell? _ ⟨g4, 1, none⟩ = some _ := (blk_cell BKg4.out 1).trans rfl; have hfg4e_1 := blk_frozen BKg4.out 1; have hcg4e_2 : World.cell? _ ⟨g4, 2, none⟩ = some _ := (blk_cell BKg4.out 2).trans rfl; have hfg4e_2 := blk_frozen BKg4.out 2; have hcg4e_3 : World.cell? _ ⟨g4, 3, none⟩ = some _ := (blk_cell BKg4.out 3).trans rfl; have hfg4e_3 := blk_frozen BKg4.out 3; have hcg4e_4 : World.cell? _ ⟨g4, 4, none⟩ = some _ := (blk_cell BKg4.out 4).trans rfl; have hfg4e_4 := blk_frozen BKg4.out 4; have hcg4e_5 : World.cell? _ ⟨g4, 5, none⟩ = some _ := (blk_cell BKg4.out 5).trans rfl; have hfg4e_5 := blk_frozen BKg4.out 5; have hcg4e_6 : World.cell? _ ⟨g4, 6, none⟩ = some _ := (blk_cell BKg4.out 6).trans rfl; have hfg4e_6 := blk_frozen BKg4.out 6; have hcg4e_7 : World.cell? _ ⟨g4, 7, none⟩ = some _ := (blk_cell BKg4.out 7).trans rfl; have hfg4e_7 := blk_frozen BKg4.out 7; have hcg4e_8 : World.cell? _ ⟨g4, 8, none⟩ = some _ := (blk_cell BKg4.out 8).trans rfl; have hfg4e_8 := blk_frozen BKg4.out 8))
      refine bodyPost_ret (results_ct rfl _ _ g4 77 #[.int .u64 n0, .int .u64 n1, .int .u64 n2, .int .u64 0, .int .u64 0, .int .u64 0, .int .u64 0, .int .u64 0, .int .u64 0] (0, 0) _ rfl ?hbk hu rfl (by kernel_rfl)) rfl ?_
      case hbk => exact put9_ (bk (o := .cells #[.int .u64 0, .int .u64 0, .int .u64 0, .int .u64 0, .int .u64 0, .int .u64 0, .int .u64 0, .int .u64 0, .int .u64 0] 77 (0, 0)) BKg4)
      exact ⟨rfl, audit_whole.set9 (bw HB) GEg4.out⟩
    · rw [if_neg c1] at h
      obtain ⟨⟨n0, n1, n2⟩, G, h⟩ := Option.bind_eq_some_iff.mp h
      simp only [Option.some.injEq, Prod.mk.injEq] at h
      obtain ⟨rfl, rfl, rfl, rfl, rfl, rfl, rfl, rfl, rfl, rfl⟩ := h
      exact audit_grid.whole p0 p1 p2 p3 p4 _ _ l n0 n1 n2 w HR.out HC.out F.out c1 G

/-! ### audit_Conforms: function 12 -/
def audit_Conforms.f (k : Nat) (a0_0 : Int) (a0_1 : Int) (a0_2 : Int) (a0_3 : Int) (a0_4 : Int) (l1 : List (S31)) : Option (Bool) := (audit_whole.f k a0_0 a0_1 a0_2 a0_3 a0_4 l1).bind fun bt250 => (some bt250.2.2.2.2.2.2.2.2.2)
theorem audit_Conforms.mono : ∀ a0 a1 a2 a3 a4 a5 k, LeO (audit_Conforms.f k a0 a1 a2 a3 a4 a5) (audit_Conforms.f (k + 1) a0 a1 a2 a3 a4 a5) := by
  intro a0 a1 a2 a3 a4 a5 k
  unfold audit_Conforms.f
  repeat' first
      | (with_reducible exact audit_whole.mono _ _ _ _ _ _ _)
      | (with_reducible exact LeO.refl _)
      | (with_reducible exact LeO.none _)
      | (with_reducible refine LeO.ite ?_ ?_)
      | (with_reducible refine LeO.bind ?_ (fun _ => ?_))
      | exact audit_whole.mono _ _ _ _ _ _ _
      | exact LeO.none _
      | refine LeO.ite ?_ ?_
      | refine LeO.bind ?_ (fun _ => ?_)
set_option maxHeartbeats 8000000 in
set_option maxRecDepth 100000 in
theorem audit_Conforms.calls (k : Nat) (a0_0 : Int) (a0_1 : Int) (a0_2 : Int) (a0_3 : Int) (a0_4 : Int) (A1 : Option Addr) (c1 : Nat) (l1 : List (S31)) (r : Bool) (w : World) (hr1 : Kd.C k31 w A1 l1.length l1) (hc1 : l1.length ≤ c1) (h : audit_Conforms.f k a0_0 a0_1 a0_2 a0_3 a0_4 l1 = some r) :
    Calls Try.prog 12 #[.agg #[.int .i64 a0_0, .int .u64 a0_1, .int .u64 a0_2, .int .u64 a0_3, .int .u64 a0_4], .slice A1 l1.length c1] w fun e w' => e = .returned (.bool r) ∧ Below w.heap.size w w' := by
  have hu24 := Try.underlying24
  have hu77 := Try.underlying77
  have HR1 := Aside0.mk hr1
  have HC1 := Aside0.mk hc1
  clear hr1 hc1
  have HB := Aside0.mk (Below.refl w.heap.size w)
  have H : ((audit_whole.f k a0_0 a0_1 a0_2 a0_3 a0_4 l1).bind fun bt250 => (some bt250.2.2.2.2.2.2.2.2.2)) = some r := h
  clear h
  replace H := Option.bind_eq_some_iff.mp H
  obtain ⟨⟨t250, t251, t252, t253, t254, t255, t256, t257, t258, t259⟩, A30, H⟩ := H
  replace H : (some t259) = some r := H
  have A3 := Aside0.mk A30
  clear A30
  obtain rfl := Option.some.inj H
  go_enter Try.func12, Try.ntmps12
  go_wp2_with (first | ((with_reducible refine gate_dst (N := 2) rfl ?_); refine bx 2 #[.int .i64 a0_0, .int .u64 a0_1, .int .u64 a0_2, .int .u64 a0_3, .int .u64 a0_4] 24 ?_; intro gb249 hg w4 hbox hb; have BK249 := Aside0.mk (hbox); have GW249 := sz HB hg; have GE249 := sz HB hg; replace HB := bs HB hb; clear hb hbox hg; obtain ⟨hcz5_0, hcz5_1, hcz5_2, hcz5_3, hcz5_4, hfz5_0, hfz5_1, hfz5_2, hfz5_3, hfz5_4⟩ := bc5 BK249) | ((with_reducible refine gate_callee (f := 29) rfl ?_); refine gl (some 10) Try.func29 #[.agg #[.int .i64 a0_0, .int .u64 a0_1, .int .u64 a0_2, .int .u64 a0_3, .int .u64 a0_4], .slice A1 l1.length c1] ?_; (with_reducible refine (audit_whole.calls k a0_0 a0_1 a0_2 a0_3 a0_4 _ _ l1 t250 t251 t252 t253 t254 t255 t256 t257 t258 t259 _ ?side1 ?side2 A3.out).mono ?_); (case side1 => exact co (Kd.C_below HR1.out HB.out)); (case side2 => exact HC1.out); rintro e w6 ⟨rfl, hb⟩; refine ⟨_, rfl, ?_⟩; replace BK249 := bb BK249 hb; replace HB := bs HB hb; (try clear hb); (try clear hb2); (try clear hk); (try clear hi)) | ((with_reducible refine gate_dst (N := 5) rfl ?_); refine bx 5 #[.int .u64 0, .int .u64 0, .int .u64 0, .int .u64 0, .int .u64 0, .int .u64 0, .int .u64 0, .int .u64 0, .int .u64 0] 77 ?_; intro gb260 hg w7 hbox hb; have BK260 := Aside0.mk (hbox); have GW260 := sz HB hg; have GE260 := sz HB hg; have NB249_260 := nl BK249 hg; have NB260_249 := nr BK249 hg; replace BK249 := bb BK249 hb; replace HB := bs HB hb; clear hb hbox hg; have hnb8 := NB260_249.out; have hnc8 := NB249_260.out; have hcz9_0 : w7.cell? ⟨gb260, 0, none⟩ = some (.int .u64 0) := (blk_cell BK260.out 0).trans rfl; have hcz9_1 : w7.cell? ⟨gb260, 1, none⟩ = some (.int .u64 0) := (blk_cell BK260.out 1).trans rfl; have hcz9_2 : w7.cell? ⟨gb260, 2, none⟩ = some (.int .u64 0) := (blk_cell BK260.out 2).trans rfl; have hcz9_3 : w7.cell? ⟨gb260, 3, none⟩ = some (.int .u64 0) := (blk_cell BK260.out 3).trans rfl; have hcz9_4 : w7.cell? ⟨gb260, 4, none⟩ = some (.int .u64 0) := (blk_cell BK260.out 4).trans rfl; have hcz9_5 : w7.cell? ⟨gb260, 5, none⟩ = some (.int .u64 0) := (blk_cell BK260.out 5).trans rfl; have hcz9_6 : w7.cell? ⟨gb260, 6, none⟩ = some (.int .u64 0) := (blk_cell BK260.out 6).trans rfl; have hcz9_7 : w7.cell? ⟨gb260, 7, none⟩ = some (.int .u64 0) := (blk_cell BK260.out 7).trans rfl; have hcz9_8 : w7.cell? ⟨gb260, 8, none⟩ = some (.int .u64 0) := (blk_cell BK260.out 8).trans rfl; have hfz9_0 := blk_frozen BK260.out 0; have hfz9_1 := blk_frozen BK260.out 1; have hfz9_2 := blk_frozen BK260.out 2; have hfz9_3 := blk_frozen BK260.out 3; have hfz9_4 := blk_frozen BK260.out 4; have hfz9_5 := blk_frozen BK260.out 5; have hfz9_6 := blk_frozen BK260.out 6; have hfz9_7 := blk_frozen BK260.out 7; have hfz9_8 := blk_frozen BK260.out 8))
  go_ret
  exact ⟨re, bw HB⟩

end Go.Proofs.Ytdoifmefhofnnaa.D
