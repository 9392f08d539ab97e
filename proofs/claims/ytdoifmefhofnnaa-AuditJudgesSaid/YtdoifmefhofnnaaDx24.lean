/- Written by the session's own program hyb.py: what functions of the program compute; Lean checks it. -/
import Derived.Test.YtdoifmefhofnnaaDx0
import Derived.Test.YtdoifmefhofnnaaDx5
import Derived.Test.YtdoifmefhofnnaaDx17
import Derived.Test.YtdoifmefhofnnaaDx19
import Derived.Test.YtdoifmefhofnnaaDx22
namespace Go.Proofs.Ytdoifmefhofnnaa.D
open Go.RowKit Go.Proofs.YtdoifmefhofnnaaW.PrintWords Go.Proofs.YtdoifmefhofnnaaW.PrintLast Go.Proofs.YtdoifmefhofnnaaW.PrintMore Go.Proofs.YtdoifmefhofnnaaW.PrintShort
attribute [local go_sem] run_Add64 run_Sub64
attribute [local go_sem] max2_int min2_int max_two min_two max_three min_three max_four min_four   -- for this text's walks alone
set_option linter.unusedVariables false
set_option linter.unusedSimpArgs false

attribute [local go_sem high] eqA76
/-! ### audit_narrow: function 33 -/
def audit_narrow.f (a0_0 : Int) (a0_1 : Int) (a0_2 : Int) : Option (Int × Bool) := (audit_of.f a0_0).bind fun bt262 => (some (a0_0, (a0_0 == bt262.1 && (a0_1 == bt262.2.1 && (a0_2 == bt262.2.2)))))
def audit_narrow.T1 : Bool × List (List Nat × List Nat) := (true, [([], []), ([0], [0]), ([], []), ([], []), ([3], [3]), ([4], [4]), ([2, 5], [2, 5]), ([1, 5, 0, 1], [1]), ([6, 7, 0, 1, 2, 3, 4, 5, 6, 7], [6])])
def audit_narrow.B1 : List Nat := [0, 1, 0, 0, 8, 24, 60, 59, 255]
theorem audit_narrow.tab1 : rtab .any (opsOf Try.f33 1) = audit_narrow.T1 := by kernel_rfl
theorem audit_narrow.bits1 : waitsOk audit_narrow.T1.2 audit_narrow.B1 = true := by kernel_rfl
set_option maxHeartbeats 8000000 in
set_option maxRecDepth 100000 in
theorem audit_narrow.calls (a0_0 : Int) (a0_1 : Int) (a0_2 : Int) (r1 : Int) (r2 : Bool) (w : World) (h : audit_narrow.f a0_0 a0_1 a0_2 = some (r1, r2)) :
    Calls Try.prog 33 #[.agg #[.int .u64 a0_0, .int .u64 a0_1, .int .u64 a0_2]] w fun e w' => e = .returned (.tuple #[.int .u64 r1, .bool r2]) ∧ Below w.heap.size w w' := by
  have hu76 := Try.underlying76
  have HB := Aside0.mk (Below.refl w.heap.size w)
  have H : ((audit_of.f a0_0).bind fun bt262 => (some (a0_0, (a0_0 == bt262.1 && (a0_1 == bt262.2.1 && (a0_2 == bt262.2.2)))))) = some (r1, r2) := h
  clear h
  replace H := Option.bind_eq_some_iff.mp H
  obtain ⟨⟨t262, t263, t264⟩, A20, H⟩ := H
  replace H : (some (a0_0, (a0_0 == t262 && (a0_1 == t263 && (a0_2 == t264))))) = some (r1, r2) := H
  have A2 := Aside0.mk A20
  clear A20
  simp only [Option.some.injEq, Prod.mk.injEq] at H
  obtain ⟨rfl, rfl⟩ := H
  go_enter Try.func33, Try.ntmps33
  try go_wp2_with (first | ((with_reducible refine gate_dst (N := 1) rfl ?_); refine bx 1 #[.int .u64 a0_0, .int .u64 a0_1, .int .u64 a0_2] 76 ?_; intro gb261 hg w3 hbox hb; have BK261 := Aside0.mk (hbox); have GW261 := sz HB hg; have GE261 := sz HB hg; replace HB := bs HB hb; clear hb hbox hg))
  replace BK261 := Aside0.mk (blk_drew BK261.out)
  replace HB := Aside0.mk (below_drew1 HB.out)
  refine start_ (n := 9) (S := fun w' => w'.cell? ⟨gb261, 0, none⟩ = some (.int .u64 a0_0) ∧ w'.cell? ⟨gb261, 1, none⟩ = some (.int .u64 a0_1) ∧ w'.cell? ⟨gb261, 2, none⟩ = some (.int .u64 a0_2)) (ds := []) #[false, false, false, false, false, false, false, false, false] (by kernel_rfl) rfl rfl ⟨(blk_cell BK261.out 0).trans rfl, (blk_cell BK261.out 1).trans rfl, (blk_cell BK261.out 2).trans rfl⟩ (fun hHeld => ?_); refine with_tabW audit_narrow.tab1 audit_narrow.bits1 (fun HT_ HW_ => ?_)
  generalize w3.drew = w4 at BK261 HB hHeld ⊢
  refine chain_ (fuel := 4) [(0, 0, some 4), (3, 0, some 7), (1, 1, some 5), (2, 1, some 6), (4, 1, some 8)] #[true, true, true, true, true, false, false, false, false] HT_.out HW_.out (by kernel_rfl) (fun _ _ _ _ _ h => h) (Or.inr hHeld) rfl ?_
  (iterate 2 refine lkP ?_); (iterate 3 refine lkT ?_); refine .nil ?_
  refine one_ (i := 5) (N := some 9) #[true, true, true, true, true, true, false, false, false] rfl rfl (one_of HT_.out (by kernel_rfl)) (by decide) (fun K hK => ?_)
  refine ge Try.func40 #[.int .u64 a0_0] ?_
  with_reducible refine (audit_of.calls a0_0 t262 t263 t264 _ A2.out).mono ?_
  rintro e w5 ⟨rfl, hb⟩
  refine ⟨_, rfl, ?_⟩
  replace BK261 := bb BK261 hb
  replace HB := bs HB hb
  (try clear hb)
  (try clear hb2)
  (try clear hk)
  (try clear hi)
  refine hK.out _ _ ⟨(blk_cell BK261.out 0).trans rfl, (blk_cell BK261.out 1).trans rfl, (blk_cell BK261.out 2).trans rfl⟩ (fun hHeld => ?_)
  clear hK K
  refine norm_ (a' := ?_) ?_ ?_
  rotate_left
  · show Act.put _ (some 9) _ = _
    simp only [Act.put, List.setIfInBounds_toArray, List.set_cons_zero, List.set_cons_succ, i64_w, i32_w]
    rfl
  refine chain_ (fuel := 0) [(6, 0, some 10), (7, 0, some 2), (8, 0, some 3)] #[true, true, true, true, true, true, true, true, true] HT_.out HW_.out (by kernel_rfl) (fun _ _ _ _ _ h => h) (Or.inl (by decide)) rfl ?_
  (iterate 3 refine lkP ?_); refine .nil ?_
  refine done_ (done_of HT_.out (by kernel_rfl)) ?_
  try go_wp2
  go_ret2
  exact ⟨re, bw HB⟩

/-! ### audit_Level: function 17 -/
def audit_Level.l2 (v1 v2 v3 v4 v5 v6 v7 v8 v9 a b : Int) : Option (Int × Int × Int × Bool) := (audit_narrow.f v7 v8 v9).bind fun n => if n.2 = true then some (a, b, n.1, true) else some (0, 0, 0, false)
def audit_Level.l1 (v1 v2 v3 v4 v5 v6 v7 v8 v9 a : Int) : Option (Int × Int × Int × Bool) := (audit_narrow.f v4 v5 v6).bind fun n => if n.2 = true then audit_Level.l2 v1 v2 v3 v4 v5 v6 v7 v8 v9 a n.1 else some (0, 0, 0, false)
def audit_Level.l0 (v1 v2 v3 v4 v5 v6 v7 v8 v9 : Int) : Option (Int × Int × Int × Bool) := (audit_narrow.f v1 v2 v3).bind fun n => if n.2 = true then audit_Level.l1 v1 v2 v3 v4 v5 v6 v7 v8 v9 n.1 else some (0, 0, 0, false)
def audit_Level.f (k : Nat) (p0 p1 p2 p3 p4 : Int) (l : List S31) : Option (Int × Int × Int × Bool) := (audit_whole.f k p0 p1 p2 p3 p4 l).bind fun v => if v.2.2.2.2.2.2.2.2.2 = true then audit_Level.l0 v.1 v.2.1 v.2.2.1 v.2.2.2.1 v.2.2.2.2.1 v.2.2.2.2.2.1 v.2.2.2.2.2.2.1 v.2.2.2.2.2.2.2.1 v.2.2.2.2.2.2.2.2.1 else some (0, 0, 0, false)
theorem audit_Level.mono : ∀ p0 p1 p2 p3 p4 l k, LeO (audit_Level.f k p0 p1 p2 p3 p4 l) (audit_Level.f (k + 1) p0 p1 p2 p3 p4 l) := by
  intro p0 p1 p2 p3 p4 l k
  unfold audit_Level.f
  exact LeO.bind (audit_whole.mono p0 p1 p2 p3 p4 l k) (fun _ => LeO.refl _)
set_option maxHeartbeats 1600000 in
set_option maxRecDepth 100000 in
theorem audit_Level.calls (k : Nat) (p0 p1 p2 p3 p4 : Int) (A : Option Addr) (c : Nat) (l : List S31) (r1 r2 r3 : Int) (r4 : Bool) (w : World) (hr : Kd.C k31 w A l.length l) (hc : l.length ≤ c) (h : audit_Level.f k p0 p1 p2 p3 p4 l = some (r1, r2, r3, r4)) :
    Calls Try.prog 17 #[.agg #[.int .i64 p0, .int .u64 p1, .int .u64 p2, .int .u64 p3, .int .u64 p4], .slice A l.length c] w fun e w' => e = .returned (.tuple #[.agg #[.int .u64 r1, .int .u64 r2, .int .u64 r3], .bool r4]) ∧ Below w.heap.size w w' := by
  have HB := Aside0.mk (Below.refl w.heap.size w)
  have HR := Aside0.mk hr
  have HC := Aside0.mk hc
  clear hr hc
  have hu := Try.underlying40
  have hv := Try.underlying24
  have hx := Try.underlying77
  have hy := Try.underlying75
  have hz := Try.underlying76
  unfold audit_Level.f at h
  obtain ⟨⟨v1, v2, v3, v4, v5, v6, v7, v8, v9, v10⟩, F, h⟩ := Option.bind_eq_some_iff.mp h
  dsimp only at h
  have F := Aside0.mk F
  cases v10 with
  | false =>
    rw [if_neg (by decide)] at h
    simp only [Option.some.injEq, Prod.mk.injEq] at h
    obtain ⟨rfl, rfl, rfl, rfl⟩ := h
    go_enter Try.func17, Try.ntmps17
    go_wp2_with (first | ((with_reducible refine gate_dst (N := 2) rfl ?_); refine bx 2 #[.int .i64 p0, .int .u64 p1, .int .u64 p2, .int .u64 p3, .int .u64 p4] 24 ?_; intro gp hg w_gp hbox hb; have n0_ := bs HB hb; have GEgp := sz HB hg; clear HB ; have HB := n0_; clear n0_; have BKgp := Aside0.mk hbox; clear hb hbox hg; obtain ⟨hcgpa_0, hcgpa_1, hcgpa_2, hcgpa_3, hcgpa_4, hfgpa_0, hfgpa_1, hfgpa_2, hfgpa_3, hfgpa_4⟩ := bc5 BKgp) | ((with_reducible refine gate_dst (N := 4) rfl ?_); refine bx 4 #[.int .u64 0, .int .u64 0, .int .u64 0] 40 ?_; intro g4 hg w_g4 hbox hb; have n_gp := bb BKgp hb; have e1_gp := nl BKgp hg; have e2_gp := nr BKgp hg; have n0_ := bs HB hb; have GEg4 := sz HB hg; clear HB BKgp; have HB := n0_; clear n0_; have BKgp := n_gp; clear n_gp; have NEgp_g4 := e1_gp; have NEg4_gp := e2_gp; clear e1_gp e2_gp; have BKg4 := Aside0.mk hbox; clear hb hbox hg; have hgp_g4 := NEgp_g4.out; have hg4_gp := NEg4_gp.out; obtain ⟨hcgpb_0, hcgpb_1, hcgpb_2, hcgpb_3, hcgpb_4, hfgpb_0, hfgpb_1, hfgpb_2, hfgpb_3, hfgpb_4⟩ := bc5 BKgp; obtain ⟨hcg4b_0, hcg4b_1, hcg4b_2, hfg4b_0, hfg4b_1, hfg4b_2⟩ := bc3 BKg4) | (go_at_call 29; refine (audit_whole.calls k p0 p1 p2 p3 p4 _ _ l v1 v2 v3 v4 v5 v6 v7 v8 v9 false _ (Kd.C_below HR.out (bw HB)) HC.out F.out).mono ?_; rintro e w5 ⟨rfl, hb⟩; have n_gp := bb BKgp hb; have n_g4 := bb BKg4 hb; have n0_ := bs HB hb; clear HB hb BKgp BKg4; have HB := n0_; clear n0_; have BKgp := n_gp; clear n_gp; have BKg4 := n_g4; clear n_g4; obtain ⟨hcg4c_0, hcg4c_1, hcg4c_2, hfg4c_0, hfg4c_1, hfg4c_2⟩ := bc3 BKg4) | ((with_reducible refine gate_dst (N := 6) rfl ?_); refine bx 6 #[.int .u64 0, .int .u64 0, .int .u64 0, .int .u64 0, .int .u64 0, .int .u64 0, .int .u64 0, .int .u64 0, .int .u64 0] 77 ?_; intro g6 hg w_g6 hbox hb; have n_gp := bb BKgp hb; have e1_gp := nl BKgp hg; have e2_gp := nr BKgp hg; have n_g4 := bb BKg4 hb; have e1_g4 := nl BKg4 hg; have e2_g4 := nr BKg4 hg; have n0_ := bs HB hb; have GEg6 := sz HB hg; clear HB BKgp BKg4; have HB := n0_; clear n0_; have BKgp := n_gp; clear n_gp; have NEgp_g6 := e1_gp; have NEg6_gp := e2_gp; clear e1_gp e2_gp; have BKg4 := n_g4; clear n_g4; have NEg4_g6 := e1_g4; have NEg6_g4 := e2_g4; clear e1_g4 e2_g4; have BKg6 := Aside0.mk hbox; clear hb hbox hg; have hg4_g6 := NEg4_g6.out; have hg6_g4 := NEg6_g4.out; obtain ⟨hcg4d_0, hcg4d_1, hcg4d_2, hfg4d_0, hfg4d_1, hfg4d_2⟩ := bc3 BKg4; have hcg6d_0 : World.cell? _ ⟨g6, 0, none⟩ = some _ := (blk_cell BKg6.out 0).trans rfl; have hfg6d_0 := blk_frozen BKg6.out 0; have hcg6d_1 : World.cell? _ ⟨g6, 1, none⟩ = some _ := (blk_cell BKg6.out 1).trans rfl; have hfg6d_1 := blk_frozen BKg6.out 1; have hcg6d_2 : World.cell? _ ⟨g6, 2, none⟩ = some _ := (blk_cell BKg6.out 2).trans rfl; have hfg6d_2 := blk_frozen BKg6.out 2; have hcg6d_3 : World.cell? _ ⟨g6, 3, none⟩ = some _ := (blk_cell BKg6.out 3).trans rfl; have hfg6d_3 := blk_frozen BKg6.out 3; have hcg6d_4 : World.cell? _ ⟨g6, 4, none⟩ = some _ := (blk_cell BKg6.out 4).trans rfl; have hfg6d_4 := blk_frozen BKg6.out 4; have hcg6d_5 : World.cell? _ ⟨g6, 5, none⟩ = some _ := (blk_cell BKg6.out 5).trans rfl; have hfg6d_5 := blk_frozen BKg6.out 5; have hcg6d_6 : World.cell? _ ⟨g6, 6, none⟩ = some _ := (blk_cell BKg6.out 6).trans rfl; have hfg6d_6 := blk_frozen BKg6.out 6; have hcg6d_7 : World.cell? _ ⟨g6, 7, none⟩ = some _ := (blk_cell BKg6.out 7).trans rfl; have hfg6d_7 := blk_frozen BKg6.out 7; have hcg6d_8 : World.cell? _ ⟨g6, 8, none⟩ = some _ := (blk_cell BKg6.out 8).trans rfl; have hfg6d_8 := blk_frozen BKg6.out 8))
    refine bodyPost_ret (results_ct rfl _ _ g4 40 #[.int .u64 0, .int .u64 0, .int .u64 0] (0, 0) _ rfl ?hbk hu rfl (by kernel_rfl)) rfl ?_
    case hbk => exact audit_flow.put3 (bk (o := .cells #[.int .u64 0, .int .u64 0, .int .u64 0] 40 (0, 0)) BKg4)
    exact ⟨rfl, bw HB⟩
  | true =>
    rw [if_pos rfl] at h
    have H0 := Aside0.mk h
    clear h
    go_enter Try.func17, Try.ntmps17
    go_wp2_with (first | ((with_reducible refine gate_dst (N := 2) rfl ?_); refine bx 2 #[.int .i64 p0, .int .u64 p1, .int .u64 p2, .int .u64 p3, .int .u64 p4] 24 ?_; intro gp hg w_gp hbox hb; have n0_ := bs HB hb; have GEgp := sz HB hg; clear HB ; have HB := n0_; clear n0_; have BKgp := Aside0.mk hbox; clear hb hbox hg; obtain ⟨hcgpa_0, hcgpa_1, hcgpa_2, hcgpa_3, hcgpa_4, hfgpa_0, hfgpa_1, hfgpa_2, hfgpa_3, hfgpa_4⟩ := bc5 BKgp) | ((with_reducible refine gate_dst (N := 4) rfl ?_); refine bx 4 #[.int .u64 0, .int .u64 0, .int .u64 0] 40 ?_; intro g4 hg w_g4 hbox hb; have n_gp := bb BKgp hb; have e1_gp := nl BKgp hg; have e2_gp := nr BKgp hg; have n0_ := bs HB hb; have GEg4 := sz HB hg; clear HB BKgp; have HB := n0_; clear n0_; have BKgp := n_gp; clear n_gp; have NEgp_g4 := e1_gp; have NEg4_gp := e2_gp; clear e1_gp e2_gp; have BKg4 := Aside0.mk hbox; clear hb hbox hg; have hgp_g4 := NEgp_g4.out; have hg4_gp := NEg4_gp.out; obtain ⟨hcgpb_0, hcgpb_1, hcgpb_2, hcgpb_3, hcgpb_4, hfgpb_0, hfgpb_1, hfgpb_2, hfgpb_3, hfgpb_4⟩ := bc5 BKgp; obtain ⟨hcg4b_0, hcg4b_1, hcg4b_2, hfg4b_0, hfg4b_1, hfg4b_2⟩ := bc3 BKg4) | (go_at_call 29; refine (audit_whole.calls k p0 p1 p2 p3 p4 _ _ l v1 v2 v3 v4 v5 v6 v7 v8 v9 true _ (Kd.C_below HR.out (bw HB)) HC.out F.out).mono ?_; rintro e w5 ⟨rfl, hb⟩; have n_gp := bb BKgp hb; have n_g4 := bb BKg4 hb; have n0_ := bs HB hb; clear HB hb BKgp BKg4; have HB := n0_; clear n0_; have BKgp := n_gp; clear n_gp; have BKg4 := n_g4; clear n_g4; obtain ⟨hcg4c_0, hcg4c_1, hcg4c_2, hfg4c_0, hfg4c_1, hfg4c_2⟩ := bc3 BKg4) | ((with_reducible refine gate_dst (N := 6) rfl ?_); refine bx 6 #[.int .u64 0, .int .u64 0, .int .u64 0, .int .u64 0, .int .u64 0, .int .u64 0, .int .u64 0, .int .u64 0, .int .u64 0] 77 ?_; intro g6 hg w_g6 hbox hb; have n_gp := bb BKgp hb; have e1_gp := nl BKgp hg; have e2_gp := nr BKgp hg; have n_g4 := bb BKg4 hb; have e1_g4 := nl BKg4 hg; have e2_g4 := nr BKg4 hg; have n0_ := bs HB hb; have GEg6 := sz HB hg; clear HB BKgp BKg4; have HB := n0_; clear n0_; have BKgp := n_gp; clear n_gp; have NEgp_g6 := e1_gp; have NEg6_gp := e2_gp; clear e1_gp e2_gp; have BKg4 := n_g4; clear n_g4; have NEg4_g6 := e1_g4; have NEg6_g4 := e2_g4; clear e1_g4 e2_g4; have BKg6 := Aside0.mk hbox; clear hb hbox hg; have hg4_g6 := NEg4_g6.out; have hg6_g4 := NEg6_g4.out; obtain ⟨hcg4d_0, hcg4d_1, hcg4d_2, hfg4d_0, hfg4d_1, hfg4d_2⟩ := bc3 BKg4; have hcg6d_0 : World.cell? _ ⟨g6, 0, none⟩ = some _ := (blk_cell BKg6.out 0).trans rfl; have hfg6d_0 := blk_frozen BKg6.out 0; have hcg6d_1 : World.cell? _ ⟨g6, 1, none⟩ = some _ := (blk_cell BKg6.out 1).trans rfl; have hfg6d_1 := blk_frozen BKg6.out 1; have hcg6d_2 : World.cell? _ ⟨g6, 2, none⟩ = some _ := (blk_cell BKg6.out 2).trans rfl; have hfg6d_2 := blk_frozen BKg6.out 2; have hcg6d_3 : World.cell? _ ⟨g6, 3, none⟩ = some _ := (blk_cell BKg6.out 3).trans rfl; have hfg6d_3 := blk_frozen BKg6.out 3; have hcg6d_4 : World.cell? _ ⟨g6, 4, none⟩ = some _ := (blk_cell BKg6.out 4).trans rfl; have hfg6d_4 := blk_frozen BKg6.out 4; have hcg6d_5 : World.cell? _ ⟨g6, 5, none⟩ = some _ := (blk_cell BKg6.out 5).trans rfl; have hfg6d_5 := blk_frozen BKg6.out 5; have hcg6d_6 : World.cell? _ ⟨g6, 6, none⟩ = some _ := (blk_cell BKg6.out 6).trans rfl; have hfg6d_6 := blk_frozen BKg6.out 6; have hcg6d_7 : World.cell? _ ⟨g6, 7, none⟩ = some _ := (blk_cell BKg6.out 7).trans rfl; have hfg6d_7 := blk_frozen BKg6.out 7; have hcg6d_8 : World.cell? _ ⟨g6, 8, none⟩ = some _ := (blk_cell BKg6.out 8).trans rfl; have hfg6d_8 := blk_frozen BKg6.out 8) | ((with_reducible refine gate_dst (N := 8) rfl ?_); refine bx 8 #[.int .u64 0, .int .u64 0, .int .u64 0] 75 ?_; intro g8 hg w_g8 hbox hb; have n_gp := bb BKgp hb; have e1_gp := nl BKgp hg; have e2_gp := nr BKgp hg; have n_g4 := bb BKg4 hb; have e1_g4 := nl BKg4 hg; have e2_g4 := nr BKg4 hg; have n_g6 := bbp (.cells #[.int .u64 v1, .int .u64 v2, .int .u64 v3, .int .u64 v4, .int .u64 v5, .int .u64 v6, .int .u64 v7, .int .u64 v8, .int .u64 v9] 77 (0, 0)) BKg6 hb (fun h_ => put9_ h_); have e1_g6 := nlp (.cells #[.int .u64 v1, .int .u64 v2, .int .u64 v3, .int .u64 v4, .int .u64 v5, .int .u64 v6, .int .u64 v7, .int .u64 v8, .int .u64 v9] 77 (0, 0)) BKg6 hg (fun h_ => put9_ h_); have e2_g6 := nrp (.cells #[.int .u64 v1, .int .u64 v2, .int .u64 v3, .int .u64 v4, .int .u64 v5, .int .u64 v6, .int .u64 v7, .int .u64 v8, .int .u64 v9] 77 (0, 0)) BKg6 hg (fun h_ => put9_ h_); have n0_ := bs HB hb; have GEg8 := sz HB hg; clear HB BKgp BKg4 BKg6; have HB := n0_; clear n0_; have BKgp := n_gp; clear n_gp; have NEgp_g8 := e1_gp; have NEg8_gp := e2_gp; clear e1_gp e2_gp; have BKg4 := n_g4; clear n_g4; have NEg4_g8 := e1_g4; have NEg8_g4 := e2_g4; clear e1_g4 e2_g4; have BKg6 := n_g6; clear n_g6; have NEg6_g8 := e1_g6; have NEg8_g6 := e2_g6; clear e1_g6 e2_g6; have BKg8 := Aside0.mk hbox; clear hb hbox hg))
    go_loopw [19] (fun v19 w' => ∃ (i x y z : Int), v19 = .int .i64 i ∧ ((i = 0 ∧ x = 0 ∧ y = 0 ∧ z = 0 ∧ Aside0 (audit_Level.l0 v1 v2 v3 v4 v5 v6 v7 v8 v9 = some (r1, r2, r3, r4))) ∨ (i = 1 ∧ y = 0 ∧ z = 0 ∧ Aside0 (audit_Level.l1 v1 v2 v3 v4 v5 v6 v7 v8 v9 x = some (r1, r2, r3, r4))) ∨ (i = 2 ∧ z = 0 ∧ Aside0 (audit_Level.l2 v1 v2 v3 v4 v5 v6 v7 v8 v9 x y = some (r1, r2, r3, r4))) ∨ (i = 3 ∧ Aside0 (some (x, y, z, true) = some (r1, r2, r3, r4)))) ∧ Aside0 (w'.heap[g4]? = some (.cells #[.int .u64 0, .int .u64 0, .int .u64 0] 40 (0, 0))) ∧ Aside0 (w'.heap[g6]? = some (.cells #[.int .u64 v1, .int .u64 v2, .int .u64 v3, .int .u64 v4, .int .u64 v5, .int .u64 v6, .int .u64 v7, .int .u64 v8, .int .u64 v9] 77 (0, 0))) ∧ Aside0 (w'.heap[g8]? = some (.cells #[.int .u64 x, .int .u64 y, .int .u64 z] 75 (0, 0))) ∧ Aside0 (Below w.heap.size w w')) (fun v19 _ => 3 - (intOf v19).toNat)
    case atStart => exact ⟨0, 0, 0, 0, rs, Or.inl ⟨rfl, rfl, rfl, rfl, H0⟩, ⟨bk BKg4⟩, ⟨bk BKg6⟩, ⟨bk BKg8⟩, ⟨bw HB⟩⟩
    case round =>
      clear BKg4 BKg6 BKg8 HB H0 F
      obtain ⟨i, x, y, z, rfl, hi, BKg4, BKg6, BKg8, HB⟩ := hrel
      have h4_8 := NEg4_g8.out
      have h8_4 := NEg8_g4.out
      have h6_8 := NEg6_g8.out
      have h8_6 := NEg8_g6.out
      obtain ⟨hc4_0, hc4_1, hc4_2, hf4_0, hf4_1, hf4_2⟩ := bc3 BKg4
      have hcg6r_0 : World.cell? _ ⟨g6, 0, none⟩ = some _ := (blk_cell BKg6.out 0).trans rfl
      have hfg6r_0 := blk_frozen BKg6.out 0
      have hcg6r_1 : World.cell? _ ⟨g6, 1, none⟩ = some _ := (blk_cell BKg6.out 1).trans rfl
      have hfg6r_1 := blk_frozen BKg6.out 1
      have hcg6r_2 : World.cell? _ ⟨g6, 2, none⟩ = some _ := (blk_cell BKg6.out 2).trans rfl
      have hfg6r_2 := blk_frozen BKg6.out 2
      have hcg6r_3 : World.cell? _ ⟨g6, 3, none⟩ = some _ := (blk_cell BKg6.out 3).trans rfl
      have hfg6r_3 := blk_frozen BKg6.out 3
      have hcg6r_4 : World.cell? _ ⟨g6, 4, none⟩ = some _ := (blk_cell BKg6.out 4).trans rfl
      have hfg6r_4 := blk_frozen BKg6.out 4
      have hcg6r_5 : World.cell? _ ⟨g6, 5, none⟩ = some _ := (blk_cell BKg6.out 5).trans rfl
      have hfg6r_5 := blk_frozen BKg6.out 5
      have hcg6r_6 : World.cell? _ ⟨g6, 6, none⟩ = some _ := (blk_cell BKg6.out 6).trans rfl
      have hfg6r_6 := blk_frozen BKg6.out 6
      have hcg6r_7 : World.cell? _ ⟨g6, 7, none⟩ = some _ := (blk_cell BKg6.out 7).trans rfl
      have hfg6r_7 := blk_frozen BKg6.out 7
      have hcg6r_8 : World.cell? _ ⟨g6, 8, none⟩ = some _ := (blk_cell BKg6.out 8).trans rfl
      have hfg6r_8 := blk_frozen BKg6.out 8
      obtain ⟨hc8_0, hc8_1, hc8_2, hf8_0, hf8_1, hf8_2⟩ := bc3 BKg8
      obtain ⟨rfl, rfl, rfl, rfl, H⟩ | ⟨rfl, rfl, rfl, H⟩ | ⟨rfl, rfl, H⟩ | ⟨rfl, H⟩ := hi
      · have H := H.out
        unfold audit_Level.l0 at H
        obtain ⟨⟨m, ok⟩, G, H⟩ := Option.bind_eq_some_iff.mp H
        dsimp only at H
        have G := Aside0.mk G
        cases ok with
        | false =>
          rw [if_neg (by decide)] at H
          simp only [Option.some.injEq, Prod.mk.injEq] at H
          obtain ⟨rfl, rfl, rfl, rfl⟩ := H
          go_wp2_with (first | (go_at_call 33; refine (audit_narrow.calls v1 v2 v3 m false _ G.out).mono ?_; rintro e w7 ⟨rfl, hb⟩; have n_g4 := bb BKg4 hb; have n_g6 := bb BKg6 hb; have n_g8 := bb BKg8 hb; have n0_ := bs HB hb; clear HB hb BKg4 BKg6 BKg8; have HB := n0_; clear n0_; have BKg4 := n_g4; clear n_g4; have BKg6 := n_g6; clear n_g6; have BKg8 := n_g8; clear n_g8; obtain ⟨hcg4s_0, hcg4s_1, hcg4s_2, hfg4s_0, hfg4s_1, hfg4s_2⟩ := bc3 BKg4; obtain ⟨hcg8s_0, hcg8s_1, hcg8s_2, hfg8s_0, hfg8s_1, hfg8s_2⟩ := bc3 BKg8))
          refine bodyPost_ret (results_ct rfl _ _ g4 40 #[.int .u64 0, .int .u64 0, .int .u64 0] (0, 0) _ rfl ?hbk hu rfl (by kernel_rfl)) rfl ?_
          case hbk => exact audit_flow.put3 (bk (o := .cells #[.int .u64 0, .int .u64 0, .int .u64 0] 40 (0, 0)) BKg4)
          exact ⟨rfl, bw HB⟩
        | true =>
          rw [if_pos rfl] at H
          have H := Aside0.mk H
          go_wp2_with (first | (go_at_call 33; refine (audit_narrow.calls v1 v2 v3 m true _ G.out).mono ?_; rintro e w7 ⟨rfl, hb⟩; have n_g4 := bb BKg4 hb; have n_g6 := bb BKg6 hb; have n_g8 := bb BKg8 hb; have n0_ := bs HB hb; clear HB hb BKg4 BKg6 BKg8; have HB := n0_; clear n0_; have BKg4 := n_g4; clear n_g4; have BKg6 := n_g6; clear n_g6; have BKg8 := n_g8; clear n_g8; obtain ⟨hcg4s_0, hcg4s_1, hcg4s_2, hfg4s_0, hfg4s_1, hfg4s_2⟩ := bc3 BKg4; obtain ⟨hcg8s_0, hcg8s_1, hcg8s_2, hfg8s_0, hfg8s_1, hfg8s_2⟩ := bc3 BKg8))
          go_roundw
          case measure => simp [intOf]
          case rel => exact ⟨1, m, 0, 0, rs, Or.inr (Or.inl ⟨rfl, rfl, rfl, H⟩), ⟨bk BKg4⟩, ⟨bk BKg6⟩, ⟨bk BKg8⟩, ⟨bw HB⟩⟩
      · have H := H.out
        unfold audit_Level.l1 at H
        obtain ⟨⟨m, ok⟩, G, H⟩ := Option.bind_eq_some_iff.mp H
        dsimp only at H
        have G := Aside0.mk G
        cases ok with
        | false =>
          rw [if_neg (by decide)] at H
          simp only [Option.some.injEq, Prod.mk.injEq] at H
          obtain ⟨rfl, rfl, rfl, rfl⟩ := H
          go_wp2_with (first | (go_at_call 33; refine (audit_narrow.calls v4 v5 v6 m false _ G.out).mono ?_; rintro e w7 ⟨rfl, hb⟩; have n_g4 := bb BKg4 hb; have n_g6 := bb BKg6 hb; have n_g8 := bb BKg8 hb; have n0_ := bs HB hb; clear HB hb BKg4 BKg6 BKg8; have HB := n0_; clear n0_; have BKg4 := n_g4; clear n_g4; have BKg6 := n_g6; clear n_g6; have BKg8 := n_g8; clear n_g8; obtain ⟨hcg4s_0, hcg4s_1, hcg4s_2, hfg4s_0, hfg4s_1, hfg4s_2⟩ := bc3 BKg4; obtain ⟨hcg8s_0, hcg8s_1, hcg8s_2, hfg8s_0, hfg8s_1, hfg8s_2⟩ := bc3 BKg8))
          refine bodyPost_ret (results_ct rfl _ _ g4 40 #[.int .u64 0, .int .u64 0, .int .u64 0] (0, 0) _ rfl ?hbk hu rfl (by kernel_rfl)) rfl ?_
          case hbk => exact audit_flow.put3 (bk (o := .cells #[.int .u64 0, .int .u64 0, .int .u64 0] 40 (0, 0)) BKg4)
          exact ⟨rfl, bw HB⟩
        | true =>
          rw [if_pos rfl] at H
          have H := Aside0.mk H
          go_wp2_with (first | (go_at_call 33; refine (audit_narrow.calls v4 v5 v6 m true _ G.out).mono ?_; rintro e w7 ⟨rfl, hb⟩; have n_g4 := bb BKg4 hb; have n_g6 := bb BKg6 hb; have n_g8 := bb BKg8 hb; have n0_ := bs HB hb; clear HB hb BKg4 BKg6 BKg8; have HB := n0_; clear n0_; have BKg4 := n_g4; clear n_g4; have BKg6 := n_g6; clear n_g6; have BKg8 := n_g8; clear n_g8; obtain ⟨hcg4s_0, hcg4s_1, hcg4s_2, hfg4s_0, hfg4s_1, hfg4s_2⟩ := bc3 BKg4; obtain ⟨hcg8s_0, hcg8s_1, hcg8s_2, hfg8s_0, hfg8s_1, hfg8s_2⟩ := bc3 BKg8))
          go_roundw
          case measure => simp [intOf]
          case rel => exact ⟨2, x, m, 0, rs, Or.inr (Or.inr (Or.inl ⟨rfl, rfl, H⟩)), ⟨bk BKg4⟩, ⟨bk BKg6⟩, ⟨bk BKg8⟩, ⟨bw HB⟩⟩
      · have H := H.out
        unfold audit_Level.l2 at H
        obtain ⟨⟨m, ok⟩, G, H⟩ := Option.bind_eq_some_iff.mp H
        dsimp only at H
        have G := Aside0.mk G
        cases ok with
        | false =>
          rw [if_neg (by decide)] at H
          simp only [Option.some.injEq, Prod.mk.injEq] at H
          obtain ⟨rfl, rfl, rfl, rfl⟩ := H
          go_wp2_with (first | (go_at_call 33; refine (audit_narrow.calls v7 v8 v9 m false _ G.out).mono ?_; rintro e w7 ⟨rfl, hb⟩; have n_g4 := bb BKg4 hb; have n_g6 := bb BKg6 hb; have n_g8 := bb BKg8 hb; have n0_ := bs HB hb; clear HB hb BKg4 BKg6 BKg8; have HB := n0_; clear n0_; have BKg4 := n_g4; clear n_g4; have BKg6 := n_g6; clear n_g6; have BKg8 := n_g8; clear n_g8; obtain ⟨hcg4s_0, hcg4s_1, hcg4s_2, hfg4s_0, hfg4s_1, hfg4s_2⟩ := bc3 BKg4; obtain ⟨hcg8s_0, hcg8s_1, hcg8s_2, hfg8s_0, hfg8s_1, hfg8s_2⟩ := bc3 BKg8))
          refine bodyPost_ret (results_ct rfl _ _ g4 40 #[.int .u64 0, .int .u64 0, .int .u64 0] (0, 0) _ rfl ?hbk hu rfl (by kernel_rfl)) rfl ?_
          case hbk => exact audit_flow.put3 (bk (o := .cells #[.int .u64 0, .int .u64 0, .int .u64 0] 40 (0, 0)) BKg4)
          exact ⟨rfl, bw HB⟩
        | true =>
          rw [if_pos rfl] at H
          have H := Aside0.mk H
          go_wp2_with (first | (go_at_call 33; refine (audit_narrow.calls v7 v8 v9 m true _ G.out).mono ?_; rintro e w7 ⟨rfl, hb⟩; have n_g4 := bb BKg4 hb; have n_g6 := bb BKg6 hb; have n_g8 := bb BKg8 hb; have n0_ := bs HB hb; clear HB hb BKg4 BKg6 BKg8; have HB := n0_; clear n0_; have BKg4 := n_g4; clear n_g4; have BKg6 := n_g6; clear n_g6; have BKg8 := n_g8; clear n_g8; obtain ⟨hcg4s_0, hcg4s_1, hcg4s_2, hfg4s_0, hfg4s_1, hfg4s_2⟩ := bc3 BKg4; obtain ⟨hcg8s_0, hcg8s_1, hcg8s_2, hfg8s_0, hfg8s_1, hfg8s_2⟩ := bc3 BKg8))
          go_roundw
          case measure => simp [intOf]
          case rel => exact ⟨3, x, y, m, rs, Or.inr (Or.inr (Or.inr (⟨rfl, H⟩))), ⟨bk BKg4⟩, ⟨bk BKg6⟩, ⟨bk BKg8⟩, ⟨bw HB⟩⟩
      · have H := H.out
        simp only [Option.some.injEq, Prod.mk.injEq] at H
        obtain ⟨rfl, rfl, rfl, rfl⟩ := H
        go_wp2
        refine bodyPost_ret (results_ct rfl _ _ g4 40 #[.int .u64 x, .int .u64 y, .int .u64 z] (0, 0) _ rfl ?hbk hu rfl (by kernel_rfl)) rfl ?_
        case hbk => exact audit_flow.put3 (bk (o := .cells #[.int .u64 0, .int .u64 0, .int .u64 0] 40 (0, 0)) BKg4)
        exact ⟨rfl, bw HB⟩

/-! ### turnstilelaw24_flow: function 26 -/
def turnstilelaw24_flow.f  : Option (Int × Int × Int × Int × Int) := some (1, 10, 20, 0, 0)
set_option maxHeartbeats 8000000 in
set_option maxRecDepth 100000 in
theorem turnstilelaw24_flow.calls  (r1 : Int) (r2 : Int) (r3 : Int) (r4 : Int) (r5 : Int) (w : World) (h : turnstilelaw24_flow.f  = some (r1, r2, r3, r4, r5)) :
    Calls Try.prog 26 #[] w fun e w' => e = .returned (.agg #[.int .i64 r1, .int .u64 r2, .int .u64 r3, .int .u64 r4, .int .u64 r5]) ∧ Below w.heap.size w w' := by
  have hu24 := Try.underlying24
  have HB := Aside0.mk (Below.refl w.heap.size w)
  have H : (some (1, 10, 20, 0, 0)) = some (r1, r2, r3, r4, r5) := h
  clear h
  simp only [Option.some.injEq, Prod.mk.injEq] at H
  obtain ⟨rfl, rfl, rfl, rfl, rfl⟩ := H
  go_enter Try.func26, Try.ntmps26
  go_wp2_with (first | ((with_reducible refine gate_dst (N := 0) rfl ?_); refine bx 0 #[.int .i64 0, .int .u64 0, .int .u64 0, .int .u64 0, .int .u64 0] 24 ?_; intro gb265 hg w1 hbox hb; have BK265 := Aside0.mk (hbox); have GW265 := sz HB hg; have GE265 := sz HB hg; replace HB := bs HB hb; clear hb hbox hg; obtain ⟨hcz2_0, hcz2_1, hcz2_2, hcz2_3, hcz2_4, hfz2_0, hfz2_1, hfz2_2, hfz2_3, hfz2_4⟩ := bc5 BK265))
  refine bodyPost_ret (results_cell_row rfl _ _ gb265 24 #[.int .i64 1, .int .u64 10, .int .u64 20, .int .u64 0, .int .u64 0] (0, 0) _ rfl (bk BK265) Try.underlying24 rfl (by kernel_rfl)) rfl ?_
  exact ⟨re, bw HB⟩

end Go.Proofs.Ytdoifmefhofnnaa.D
