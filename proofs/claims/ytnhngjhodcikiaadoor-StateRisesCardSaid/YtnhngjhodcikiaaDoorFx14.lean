/- Written by the session's own program hyb.py: what functions of the program compute; Lean checks it. -/
import Derived.Test.YtnhngjhodcikiaaDoorFx0
import Derived.Test.YtnhngjhodcikiaaDoorFx5
import Derived.Test.YtnhngjhodcikiaaDoorFx12
import Derived.Test.YtnhngjhodcikiaaDoorFx13
import Derived.Test.YtnhngjhodcikiaaDoorWMaps
namespace Go.Proofs.YtnhngjhodcikiaaDoor.F
open Go.RowKit Go.Proofs.YtnhngjhodcikiaaDoorW.PrintWords Go.Proofs.YtnhngjhodcikiaaDoorW.PrintLast Go.Proofs.YtnhngjhodcikiaaDoorW.PrintMore Go.Proofs.YtnhngjhodcikiaaDoorW.PrintShort
attribute [local go_sem] run_Add64 run_Sub64
attribute [local go_sem] max2_int min2_int max_two min_two max_three min_three max_four min_four   -- for this text's walks alone
set_option linter.unusedVariables false
set_option linter.unusedSimpArgs false

/-! ### policy_of: function 38 -/
-- NEEDS WMaps
def policy_of.ok (a0_0 : Int) (a0_1 : Int) (a0_2 : Int) (a0_3 : Int) (a0_4 : Int) : Option Bool := if a0_0 = 1 then (policy_rules_1.f 1 a0_1 a0_2 a0_3 a0_4) else (if a0_0 = 2 then (policy_rules_7.f 2 a0_1 a0_2 a0_3 a0_4) else (some false))
theorem policy_of.parts {a0_0 a0_1 a0_2 a0_3 a0_4 : Int} {t : Bool} (h : policy_of.ok a0_0 a0_1 a0_2 a0_3 a0_4 = some t) : (a0_0 = 1 ∧ policy_rules_1.f 1 a0_1 a0_2 a0_3 a0_4 = some t) ∨ (a0_0 = 2 ∧ policy_rules_7.f 2 a0_1 a0_2 a0_3 a0_4 = some t) ∨ (a0_0 ≠ 1 ∧ a0_0 ≠ 2 ∧ t = false) := by
  unfold policy_of.ok at h
  by_cases c1 : a0_0 = 1
  · subst c1
    rw [if_pos rfl] at h
    exact Or.inl ⟨rfl, h⟩
  · rw [if_neg c1] at h
    by_cases c2 : a0_0 = 2
    · subst c2
      rw [if_pos rfl] at h
      exact Or.inr (Or.inl ⟨rfl, h⟩)
    · rw [if_neg c2] at h
      exact Or.inr (Or.inr ⟨c1, c2, (Option.some.inj h).symm⟩)
def policy_of.T2 : Bool × List (List Nat × List Nat) := (true, [([], []), ([], []), ([1], [1]), ([2], [2]), ([3, 2], [2, 3]), ([2], [2]), ([4, 5, 2, 2], [2, 4, 5]), ([2, 6], [2, 6]), ([0, 6, 0], [0]), ([7, 8, 0, 1, 2, 3, 4, 5, 6, 7, 8], [7])])
def policy_of.B2 : List Nat := [0, 0, 2, 6, 14, 6, 62, 126, 127, 511]
theorem policy_of.tab2 : rtab .any (opsOf Tryd.f38 2) = policy_of.T2 := by kernel_rfl
theorem policy_of.bits2 : waitsOk policy_of.T2.2 policy_of.B2 = true := by kernel_rfl
set_option maxHeartbeats 1600000 in
set_option maxRecDepth 100000 in
theorem policy_of.flow (a0_1 a0_2 a0_3 a0_4 : Int) (r : Bool) (w : World) (h : policy_rules_1.f 1 a0_1 a0_2 a0_3 a0_4 = some r) :
    Calls Tryd.prog 38 #[.agg #[.int .i64 1, .int .u64 a0_1, .int .u64 a0_2, .int .u64 a0_3, .int .u64 a0_4]] w fun e w' => e = .returned (.tuple #[.agg #[.func (.func 51) #[] #[], .func (.func 52) #[] #[], .func (.func 53) #[] #[], .func (.func 55) #[] #[], .func (.func 57) #[] #[], .func (.func 59) #[] #[]], .bool r]) ∧ Below w.heap.size w w' := by
  have HB := Aside0.mk (Below.refl w.heap.size w)
  have H := Aside0.mk h
  clear h
  have hu82 := Tryd.underlying80
  go_enter Tryd.func38, Tryd.ntmps38
  go_upto_region 1 with (first | ((with_reducible refine gate_dst (N := 1) rfl ?_); refine bx 1 #[.int .i64 1, .int .u64 a0_1, .int .u64 a0_2, .int .u64 a0_3, .int .u64 a0_4] 35 ?_; intro gp hg w_gp hbox hb; have n0_ := bs HB hb; have GEgp := sz HB hg; clear HB ; have HB := n0_; have BKgp := Aside0.mk hbox; clear n0_ hb hbox hg) | ((with_reducible refine gate_dst (N := 2) rfl ?_); refine bx 2 #[.nilFunc, .nilFunc, .nilFunc, .nilFunc, .nilFunc, .nilFunc] 80 ?_; intro gr hg w_gr hbox hb; have n_gp := bb BKgp hb; have e_gp := nl BKgp hg; have n0_ := bs HB hb; have GEgr := sz HB hg; clear HB BKgp; have HB := n0_; have BKgp := n_gp; have NEgp_gr := e_gp; clear n_gp e_gp; have BKgr := Aside0.mk hbox; clear n0_ hb hbox hg))
  have hp0 : w_gr.cell? ⟨gp, 0, none⟩ = some (.int .i64 1) := (blk_cell BKgp.out 0).trans rfl
  have hp0d : w_gr.drew.cell? ⟨gp, 0, none⟩ = some (.int .i64 1) := hp0
  have hp0a : ∀ o, (w_gr.alloc o).drew.cell? ⟨gp, 0, none⟩ = some (.int .i64 1) := fun o => (blk_cell (blk_drew (blk_alloc BKgp.out o)) 0).trans rfl
  have NPN : Aside0 (gp ≠ w_gr.heap.size) := ⟨Nat.ne_of_lt (blk_lt BKgp.out)⟩
  have NRN : Aside0 (gr ≠ w_gr.heap.size) := ⟨Nat.ne_of_lt (blk_lt BKgr.out)⟩
  have GEN : Aside0 (w.heap.size ≤ w_gr.heap.size) := ⟨HB.out.size⟩
  go_cut [4, 5] (fun v4 v5 wc => ∃ b, v4 = .pointer (some ⟨b, 0, none⟩) ∧ v5 = .bool true ∧ Aside0 (wc.heap[b]? = some (.cells #[.func (.func 51) #[] #[], .func (.func 52) #[] #[], .func (.func 53) #[] #[], .func (.func 55) #[] #[], .func (.func 57) #[] #[], .func (.func 59) #[] #[]] 80 (0, 0))) ∧ Aside0 (wc.heap[gp]? = some (.cells #[.int .i64 1, .int .u64 a0_1, .int .u64 a0_2, .int .u64 a0_3, .int .u64 a0_4] 35 (0, 0))) ∧ Aside0 (wc.heap[gr]? = some (.cells #[.nilFunc, .nilFunc, .nilFunc, .nilFunc, .nilFunc, .nilFunc] 80 (0, 0))) ∧ Aside0 (b ≠ gr) ∧ Aside0 (Below w.heap.size w wc))
  case first =>
    go_region_held3 (fun w' => w'.cell? ⟨gp, 0, none⟩ = some (.int .i64 1)) (first | (with_reducible first | exact hp0 | exact hp0d | exact hp0a _ | exact hpc | exact hpa _) | exact (blk_cell (far6_ BKP3.out NPN.out) 0).trans rfl)
     ((go_at_call 48; refine (policy_rules.calls _).mono ?_; rintro e w3 ⟨g, rfl, hg, hm, hb⟩; have BKP3 := bb BKgp hb; have BKR3 := bb BKgr hb; have HB3 := bs HB hb; have hpc : w3.cell? ⟨gp, 0, none⟩ = some (.int .i64 1) := (blk_cell BKP3.out 0).trans rfl; have hpa : ∀ o, (w3.alloc o).cell? ⟨gp, 0, none⟩ = some (.int .i64 1) := fun o => (blk_cell (blk_alloc BKP3.out o) 0).trans rfl; have hl1 := policy_rules.look1 hm; have hl2 := fun o => policy_rules.look1 (blk_alloc hm o); (try (have BN := blk_below (g := w_gr.heap.size) (o := .cells #[.nilFunc, .nilFunc, .nilFunc, .nilFunc, .nilFunc, .nilFunc] 80) (by exact blk_drew (blk_new _ _)) hb; have k0 : w3.cell? ⟨w_gr.heap.size, 0, none⟩ = some .nilFunc := (blk_cell BN 0).trans rfl; have f0 := blk_frozen BN 0; have k1 : w3.cell? ⟨w_gr.heap.size, 1, none⟩ = some .nilFunc := (blk_cell BN 1).trans rfl; have f1 := blk_frozen BN 1; have k2 : w3.cell? ⟨w_gr.heap.size, 2, none⟩ = some .nilFunc := (blk_cell BN 2).trans rfl; have f2 := blk_frozen BN 2; have k3 : w3.cell? ⟨w_gr.heap.size, 3, none⟩ = some .nilFunc := (blk_cell BN 3).trans rfl; have f3 := blk_frozen BN 3; have k4 : w3.cell? ⟨w_gr.heap.size, 4, none⟩ = some .nilFunc := (blk_cell BN 4).trans rfl; have f4 := blk_frozen BN 4; have k5 : w3.cell? ⟨w_gr.heap.size, 5, none⟩ = some .nilFunc := (blk_cell BN 5).trans rfl; have f5 := blk_frozen BN 5; have BKN := Aside0.mk BN; clear BN))))
    all_goals (go_wp2_with (fail); go_meet)
    all_goals (first | ((with_reducible refine ⟨w3.heap.size, rfl, rfl, ?_, ?_, ?_, ?_, ?_⟩); with_reducible exact ⟨blk_new _ _⟩; with_reducible exact ⟨blk_alloc BKP3.out _⟩; with_reducible exact ⟨blk_alloc BKR3.out _⟩; exact ⟨(Nat.ne_of_lt (blk_lt BKR3.out)).symm⟩; with_reducible exact ⟨below_alloc HB3.out _⟩) | ((with_reducible refine ⟨w_gr.heap.size, rfl, rfl, ?_, ?_, ?_, ?_, ?_⟩); with_reducible exact ⟨put6_ BKN.out⟩; with_reducible exact ⟨far6_ BKP3.out NPN.out⟩; with_reducible exact ⟨far6_ BKR3.out NRN.out⟩; exact ⟨NRN.out.symm⟩; with_reducible exact ⟨set6_ HB3.out GEN.out⟩))
  case rest =>
    obtain ⟨b, rfl, rfl, BKB, BKP2, BKR2, NBR, HB2⟩ := hcut
    clear hp0 hp0d hp0a NPN NRN GEN BKgp BKgr HB
    have SD : wc.drew.cell? ⟨b, 0, none⟩ = _ ∧ _ := bc6_ (blk_drew BKB.out)
    have SP : wc.drew.cell? ⟨gp, 0, none⟩ = _ ∧ _ := bc5_ (blk_drew BKP2.out)
    have SR : wc.drew.cell? ⟨gr, 0, none⟩ = _ ∧ _ := bc6_ (blk_drew BKR2.out)
    obtain ⟨r0, r1, r2, r3, r4, r5⟩ := SR
    have fr0 := blk_frozen (blk_drew BKR2.out) 0
    have fr1 := blk_frozen (blk_drew BKR2.out) 1
    have fr2 := blk_frozen (blk_drew BKR2.out) 2
    have fr3 := blk_frozen (blk_drew BKR2.out) 3
    have fr4 := blk_frozen (blk_drew BKR2.out) 4
    have fr5 := blk_frozen (blk_drew BKR2.out) 5
    go_upto_region 2 with (fail)
    go_region_held3 (fun w' => (w'.cell? ⟨b, 0, none⟩ = some (.func (.func 51) #[] #[]) ∧ w'.cell? ⟨b, 1, none⟩ = some (.func (.func 52) #[] #[]) ∧ w'.cell? ⟨b, 2, none⟩ = some (.func (.func 53) #[] #[]) ∧ w'.cell? ⟨b, 3, none⟩ = some (.func (.func 55) #[] #[]) ∧ w'.cell? ⟨b, 4, none⟩ = some (.func (.func 57) #[] #[]) ∧ w'.cell? ⟨b, 5, none⟩ = some (.func (.func 59) #[] #[])) ∧ (w'.cell? ⟨gp, 0, none⟩ = some (.int .i64 1) ∧ w'.cell? ⟨gp, 1, none⟩ = some (.int .u64 a0_1) ∧ w'.cell? ⟨gp, 2, none⟩ = some (.int .u64 a0_2) ∧ w'.cell? ⟨gp, 3, none⟩ = some (.int .u64 a0_3) ∧ w'.cell? ⟨gp, 4, none⟩ = some (.int .u64 a0_4))) (first | (with_reducible exact ⟨SD, SP⟩) | (with_reducible exact ⟨SD4, SP4⟩) | (exact ⟨bc6_ (far6_ BKB4.out NBR.out), bc5_ (far6_ BKP4.out NEgp_gr.out)⟩))
     ((go_at_call 51; refine (policy_rules_1.calls _ _ _ _ _ _ _ H.out).mono ?_; rintro e w4 ⟨rfl, hb⟩; have BKB4 := bb BKB hb; have BKP4 := bb BKP2 hb; have BKR4 := bb BKR2 hb; have HB4 := bs HB2 hb; have SD4 : w4.cell? ⟨b, 0, none⟩ = _ ∧ _ := bc6_ BKB4.out; have SP4 : w4.cell? ⟨gp, 0, none⟩ = _ ∧ _ := bc5_ BKP4.out; obtain ⟨q0, q1, q2, q3, q4, q5⟩ := bc6_ BKR4.out; have fq0 := blk_frozen BKR4.out 0; have fq1 := blk_frozen BKR4.out 1; have fq2 := blk_frozen BKR4.out 2; have fq3 := blk_frozen BKR4.out 3; have fq4 := blk_frozen BKR4.out 4; have fq5 := blk_frozen BKR4.out 5))
    go_wp2_with (fail)
    with_reducible refine bodyPost_ret (results_ct rfl _ _ gr 80 #[.func (.func 51) #[] #[], .func (.func 52) #[] #[], .func (.func 53) #[] #[], .func (.func 55) #[] #[], .func (.func 57) #[] #[], .func (.func 59) #[] #[]] (0, 0) _ rfl (put6_ BKR4.out) hu82 rfl (by kernel_rfl)) rfl ?_
    exact ⟨rfl, set6_ HB4.out GEgr.out⟩
set_option maxHeartbeats 1600000 in
set_option maxRecDepth 100000 in
theorem policy_of.grid (a0_1 a0_2 a0_3 a0_4 : Int) (r : Bool) (w : World) (h : policy_rules_7.f 2 a0_1 a0_2 a0_3 a0_4 = some r) :
    Calls Tryd.prog 38 #[.agg #[.int .i64 2, .int .u64 a0_1, .int .u64 a0_2, .int .u64 a0_3, .int .u64 a0_4]] w fun e w' => e = .returned (.tuple #[.agg #[.func (.func 60) #[] #[], .func (.func 61) #[] #[], .func (.func 62) #[] #[], .func (.func 64) #[] #[], .func (.func 66) #[] #[], .func (.func 68) #[] #[]], .bool r]) ∧ Below w.heap.size w w' := by
  have HB := Aside0.mk (Below.refl w.heap.size w)
  have H := Aside0.mk h
  clear h
  have hu82 := Tryd.underlying80
  go_enter Tryd.func38, Tryd.ntmps38
  go_upto_region 1 with (first | ((with_reducible refine gate_dst (N := 1) rfl ?_); refine bx 1 #[.int .i64 2, .int .u64 a0_1, .int .u64 a0_2, .int .u64 a0_3, .int .u64 a0_4] 35 ?_; intro gp hg w_gp hbox hb; have n0_ := bs HB hb; have GEgp := sz HB hg; clear HB ; have HB := n0_; have BKgp := Aside0.mk hbox; clear n0_ hb hbox hg) | ((with_reducible refine gate_dst (N := 2) rfl ?_); refine bx 2 #[.nilFunc, .nilFunc, .nilFunc, .nilFunc, .nilFunc, .nilFunc] 80 ?_; intro gr hg w_gr hbox hb; have n_gp := bb BKgp hb; have e_gp := nl BKgp hg; have n0_ := bs HB hb; have GEgr := sz HB hg; clear HB BKgp; have HB := n0_; have BKgp := n_gp; have NEgp_gr := e_gp; clear n_gp e_gp; have BKgr := Aside0.mk hbox; clear n0_ hb hbox hg))
  have hp0 : w_gr.cell? ⟨gp, 0, none⟩ = some (.int .i64 2) := (blk_cell BKgp.out 0).trans rfl
  have hp0d : w_gr.drew.cell? ⟨gp, 0, none⟩ = some (.int .i64 2) := hp0
  have hp0a : ∀ o, (w_gr.alloc o).drew.cell? ⟨gp, 0, none⟩ = some (.int .i64 2) := fun o => (blk_cell (blk_drew (blk_alloc BKgp.out o)) 0).trans rfl
  have NPN : Aside0 (gp ≠ w_gr.heap.size) := ⟨Nat.ne_of_lt (blk_lt BKgp.out)⟩
  have NRN : Aside0 (gr ≠ w_gr.heap.size) := ⟨Nat.ne_of_lt (blk_lt BKgr.out)⟩
  have GEN : Aside0 (w.heap.size ≤ w_gr.heap.size) := ⟨HB.out.size⟩
  go_cut [4, 5] (fun v4 v5 wc => ∃ b, v4 = .pointer (some ⟨b, 0, none⟩) ∧ v5 = .bool true ∧ Aside0 (wc.heap[b]? = some (.cells #[.func (.func 60) #[] #[], .func (.func 61) #[] #[], .func (.func 62) #[] #[], .func (.func 64) #[] #[], .func (.func 66) #[] #[], .func (.func 68) #[] #[]] 80 (0, 0))) ∧ Aside0 (wc.heap[gp]? = some (.cells #[.int .i64 2, .int .u64 a0_1, .int .u64 a0_2, .int .u64 a0_3, .int .u64 a0_4] 35 (0, 0))) ∧ Aside0 (wc.heap[gr]? = some (.cells #[.nilFunc, .nilFunc, .nilFunc, .nilFunc, .nilFunc, .nilFunc] 80 (0, 0))) ∧ Aside0 (b ≠ gr) ∧ Aside0 (Below w.heap.size w wc))
  case first =>
    go_region_held3 (fun w' => w'.cell? ⟨gp, 0, none⟩ = some (.int .i64 2)) (first | (with_reducible first | exact hp0 | exact hp0d | exact hp0a _ | exact hpc | exact hpa _) | exact (blk_cell (far6_ BKP3.out NPN.out) 0).trans rfl)
     ((go_at_call 48; refine (policy_rules.calls _).mono ?_; rintro e w3 ⟨g, rfl, hg, hm, hb⟩; have BKP3 := bb BKgp hb; have BKR3 := bb BKgr hb; have HB3 := bs HB hb; have hpc : w3.cell? ⟨gp, 0, none⟩ = some (.int .i64 2) := (blk_cell BKP3.out 0).trans rfl; have hpa : ∀ o, (w3.alloc o).cell? ⟨gp, 0, none⟩ = some (.int .i64 2) := fun o => (blk_cell (blk_alloc BKP3.out o) 0).trans rfl; have hl1 := policy_rules.look2 hm; have hl2 := fun o => policy_rules.look2 (blk_alloc hm o); (try (have BN := blk_below (g := w_gr.heap.size) (o := .cells #[.nilFunc, .nilFunc, .nilFunc, .nilFunc, .nilFunc, .nilFunc] 80) (by exact blk_drew (blk_new _ _)) hb; have k0 : w3.cell? ⟨w_gr.heap.size, 0, none⟩ = some .nilFunc := (blk_cell BN 0).trans rfl; have f0 := blk_frozen BN 0; have k1 : w3.cell? ⟨w_gr.heap.size, 1, none⟩ = some .nilFunc := (blk_cell BN 1).trans rfl; have f1 := blk_frozen BN 1; have k2 : w3.cell? ⟨w_gr.heap.size, 2, none⟩ = some .nilFunc := (blk_cell BN 2).trans rfl; have f2 := blk_frozen BN 2; have k3 : w3.cell? ⟨w_gr.heap.size, 3, none⟩ = some .nilFunc := (blk_cell BN 3).trans rfl; have f3 := blk_frozen BN 3; have k4 : w3.cell? ⟨w_gr.heap.size, 4, none⟩ = some .nilFunc := (blk_cell BN 4).trans rfl; have f4 := blk_frozen BN 4; have k5 : w3.cell? ⟨w_gr.heap.size, 5, none⟩ = some .nilFunc := (blk_cell BN 5).trans rfl; have f5 := blk_frozen BN 5; have BKN := Aside0.mk BN; clear BN))))
    all_goals (go_wp2_with (fail); go_meet)
    all_goals (first | ((with_reducible refine ⟨w3.heap.size, rfl, rfl, ?_, ?_, ?_, ?_, ?_⟩); with_reducible exact ⟨blk_new _ _⟩; with_reducible exact ⟨blk_alloc BKP3.out _⟩; with_reducible exact ⟨blk_alloc BKR3.out _⟩; exact ⟨(Nat.ne_of_lt (blk_lt BKR3.out)).symm⟩; with_reducible exact ⟨below_alloc HB3.out _⟩) | ((with_reducible refine ⟨w_gr.heap.size, rfl, rfl, ?_, ?_, ?_, ?_, ?_⟩); with_reducible exact ⟨put6_ BKN.out⟩; with_reducible exact ⟨far6_ BKP3.out NPN.out⟩; with_reducible exact ⟨far6_ BKR3.out NRN.out⟩; exact ⟨NRN.out.symm⟩; with_reducible exact ⟨set6_ HB3.out GEN.out⟩))
  case rest =>
    obtain ⟨b, rfl, rfl, BKB, BKP2, BKR2, NBR, HB2⟩ := hcut
    clear hp0 hp0d hp0a NPN NRN GEN BKgp BKgr HB
    have SD : wc.drew.cell? ⟨b, 0, none⟩ = _ ∧ _ := bc6_ (blk_drew BKB.out)
    have SP : wc.drew.cell? ⟨gp, 0, none⟩ = _ ∧ _ := bc5_ (blk_drew BKP2.out)
    have SR : wc.drew.cell? ⟨gr, 0, none⟩ = _ ∧ _ := bc6_ (blk_drew BKR2.out)
    obtain ⟨r0, r1, r2, r3, r4, r5⟩ := SR
    have fr0 := blk_frozen (blk_drew BKR2.out) 0
    have fr1 := blk_frozen (blk_drew BKR2.out) 1
    have fr2 := blk_frozen (blk_drew BKR2.out) 2
    have fr3 := blk_frozen (blk_drew BKR2.out) 3
    have fr4 := blk_frozen (blk_drew BKR2.out) 4
    have fr5 := blk_frozen (blk_drew BKR2.out) 5
    go_upto_region 2 with (fail)
    go_region_held3 (fun w' => (w'.cell? ⟨b, 0, none⟩ = some (.func (.func 60) #[] #[]) ∧ w'.cell? ⟨b, 1, none⟩ = some (.func (.func 61) #[] #[]) ∧ w'.cell? ⟨b, 2, none⟩ = some (.func (.func 62) #[] #[]) ∧ w'.cell? ⟨b, 3, none⟩ = some (.func (.func 64) #[] #[]) ∧ w'.cell? ⟨b, 4, none⟩ = some (.func (.func 66) #[] #[]) ∧ w'.cell? ⟨b, 5, none⟩ = some (.func (.func 68) #[] #[])) ∧ (w'.cell? ⟨gp, 0, none⟩ = some (.int .i64 2) ∧ w'.cell? ⟨gp, 1, none⟩ = some (.int .u64 a0_1) ∧ w'.cell? ⟨gp, 2, none⟩ = some (.int .u64 a0_2) ∧ w'.cell? ⟨gp, 3, none⟩ = some (.int .u64 a0_3) ∧ w'.cell? ⟨gp, 4, none⟩ = some (.int .u64 a0_4))) (first | (with_reducible exact ⟨SD, SP⟩) | (with_reducible exact ⟨SD4, SP4⟩) | (exact ⟨bc6_ (far6_ BKB4.out NBR.out), bc5_ (far6_ BKP4.out NEgp_gr.out)⟩))
     ((go_at_call 60; refine (policy_rules_7.calls _ _ _ _ _ _ _ H.out).mono ?_; rintro e w4 ⟨rfl, hb⟩; have BKB4 := bb BKB hb; have BKP4 := bb BKP2 hb; have BKR4 := bb BKR2 hb; have HB4 := bs HB2 hb; have SD4 : w4.cell? ⟨b, 0, none⟩ = _ ∧ _ := bc6_ BKB4.out; have SP4 : w4.cell? ⟨gp, 0, none⟩ = _ ∧ _ := bc5_ BKP4.out; obtain ⟨q0, q1, q2, q3, q4, q5⟩ := bc6_ BKR4.out; have fq0 := blk_frozen BKR4.out 0; have fq1 := blk_frozen BKR4.out 1; have fq2 := blk_frozen BKR4.out 2; have fq3 := blk_frozen BKR4.out 3; have fq4 := blk_frozen BKR4.out 4; have fq5 := blk_frozen BKR4.out 5))
    go_wp2_with (fail)
    with_reducible refine bodyPost_ret (results_ct rfl _ _ gr 80 #[.func (.func 60) #[] #[], .func (.func 61) #[] #[], .func (.func 62) #[] #[], .func (.func 64) #[] #[], .func (.func 66) #[] #[], .func (.func 68) #[] #[]] (0, 0) _ rfl (put6_ BKR4.out) hu82 rfl (by kernel_rfl)) rfl ?_
    exact ⟨rfl, set6_ HB4.out GEgr.out⟩
set_option maxHeartbeats 1600000 in
set_option maxRecDepth 100000 in
theorem policy_of.other (a0_0 a0_1 a0_2 a0_3 a0_4 : Int) (w : World) (hn1 : a0_0 ≠ 1) (hn2 : a0_0 ≠ 2) :
    Calls Tryd.prog 38 #[.agg #[.int .i64 a0_0, .int .u64 a0_1, .int .u64 a0_2, .int .u64 a0_3, .int .u64 a0_4]] w fun e w' => e = .returned (.tuple #[.agg #[.nilFunc, .nilFunc, .nilFunc, .nilFunc, .nilFunc, .nilFunc], .bool false]) ∧ Below w.heap.size w w' := by
  have HB := Aside0.mk (Below.refl w.heap.size w)
  have H1 := Aside0.mk hn1
  have H2 := Aside0.mk hn2
  clear hn1 hn2
  have hu82 := Tryd.underlying80
  go_enter Tryd.func38, Tryd.ntmps38
  go_upto_region 1 with (first | ((with_reducible refine gate_dst (N := 1) rfl ?_); refine bx 1 #[.int .i64 a0_0, .int .u64 a0_1, .int .u64 a0_2, .int .u64 a0_3, .int .u64 a0_4] 35 ?_; intro gp hg w_gp hbox hb; have n0_ := bs HB hb; have GEgp := sz HB hg; clear HB ; have HB := n0_; have BKgp := Aside0.mk hbox; clear n0_ hb hbox hg) | ((with_reducible refine gate_dst (N := 2) rfl ?_); refine bx 2 #[.nilFunc, .nilFunc, .nilFunc, .nilFunc, .nilFunc, .nilFunc] 80 ?_; intro gr hg w_gr hbox hb; have n_gp := bb BKgp hb; have e_gp := nl BKgp hg; have n0_ := bs HB hb; have GEgr := sz HB hg; clear HB BKgp; have HB := n0_; have BKgp := n_gp; have NEgp_gr := e_gp; clear n_gp e_gp; have BKgr := Aside0.mk hbox; clear n0_ hb hbox hg))
  have hp0 : w_gr.cell? ⟨gp, 0, none⟩ = some (.int .i64 a0_0) := (blk_cell BKgp.out 0).trans rfl
  have hp0d : w_gr.drew.cell? ⟨gp, 0, none⟩ = some (.int .i64 a0_0) := hp0
  have hp0a : ∀ o, (w_gr.alloc o).drew.cell? ⟨gp, 0, none⟩ = some (.int .i64 a0_0) := fun o => (blk_cell (blk_drew (blk_alloc BKgp.out o)) 0).trans rfl
  have NPN : Aside0 (gp ≠ w_gr.heap.size) := ⟨Nat.ne_of_lt (blk_lt BKgp.out)⟩
  have NRN : Aside0 (gr ≠ w_gr.heap.size) := ⟨Nat.ne_of_lt (blk_lt BKgr.out)⟩
  have GEN : Aside0 (w.heap.size ≤ w_gr.heap.size) := ⟨HB.out.size⟩
  go_cut [4, 5] (fun v4 v5 wc => ∃ b, v4 = .pointer (some ⟨b, 0, none⟩) ∧ v5 = .bool false ∧ Aside0 (wc.heap[b]? = some (.cells #[.nilFunc, .nilFunc, .nilFunc, .nilFunc, .nilFunc, .nilFunc] 80 (0, 0))) ∧ Aside0 (wc.heap[gp]? = some (.cells #[.int .i64 a0_0, .int .u64 a0_1, .int .u64 a0_2, .int .u64 a0_3, .int .u64 a0_4] 35 (0, 0))) ∧ Aside0 (wc.heap[gr]? = some (.cells #[.nilFunc, .nilFunc, .nilFunc, .nilFunc, .nilFunc, .nilFunc] 80 (0, 0))) ∧ Aside0 (b ≠ gr) ∧ Aside0 (Below w.heap.size w wc))
  case first =>
    go_region_held3 (fun w' => w'.cell? ⟨gp, 0, none⟩ = some (.int .i64 a0_0)) (first | (with_reducible first | exact hp0 | exact hp0d | exact hp0a _ | exact hpc | exact hpa _) | exact (blk_cell (far6_ BKP3.out NPN.out) 0).trans rfl)
     ((go_at_call 48; refine (policy_rules.calls _).mono ?_; rintro e w3 ⟨g, rfl, hg, hm, hb⟩; have BKP3 := bb BKgp hb; have BKR3 := bb BKgr hb; have HB3 := bs HB hb; have hpc : w3.cell? ⟨gp, 0, none⟩ = some (.int .i64 a0_0) := (blk_cell BKP3.out 0).trans rfl; have hpa : ∀ o, (w3.alloc o).cell? ⟨gp, 0, none⟩ = some (.int .i64 a0_0) := fun o => (blk_cell (blk_alloc BKP3.out o) 0).trans rfl; have hl1 := policy_rules.look0 hm H1.out H2.out; have hl2 := fun o => policy_rules.look0 (blk_alloc hm o) H1.out H2.out; (try (have BN := blk_below (g := w_gr.heap.size) (o := .cells #[.nilFunc, .nilFunc, .nilFunc, .nilFunc, .nilFunc, .nilFunc] 80) (by exact blk_drew (blk_new _ _)) hb; have k0 : w3.cell? ⟨w_gr.heap.size, 0, none⟩ = some .nilFunc := (blk_cell BN 0).trans rfl; have f0 := blk_frozen BN 0; have k1 : w3.cell? ⟨w_gr.heap.size, 1, none⟩ = some .nilFunc := (blk_cell BN 1).trans rfl; have f1 := blk_frozen BN 1; have k2 : w3.cell? ⟨w_gr.heap.size, 2, none⟩ = some .nilFunc := (blk_cell BN 2).trans rfl; have f2 := blk_frozen BN 2; have k3 : w3.cell? ⟨w_gr.heap.size, 3, none⟩ = some .nilFunc := (blk_cell BN 3).trans rfl; have f3 := blk_frozen BN 3; have k4 : w3.cell? ⟨w_gr.heap.size, 4, none⟩ = some .nilFunc := (blk_cell BN 4).trans rfl; have f4 := blk_frozen BN 4; have k5 : w3.cell? ⟨w_gr.heap.size, 5, none⟩ = some .nilFunc := (blk_cell BN 5).trans rfl; have f5 := blk_frozen BN 5; have BKN := Aside0.mk BN; clear BN))))
    all_goals (go_wp2_with (fail); go_meet)
    all_goals (first | ((with_reducible refine ⟨w3.heap.size, rfl, rfl, ?_, ?_, ?_, ?_, ?_⟩); with_reducible exact ⟨blk_new _ _⟩; with_reducible exact ⟨blk_alloc BKP3.out _⟩; with_reducible exact ⟨blk_alloc BKR3.out _⟩; exact ⟨(Nat.ne_of_lt (blk_lt BKR3.out)).symm⟩; with_reducible exact ⟨below_alloc HB3.out _⟩) | ((with_reducible refine ⟨w_gr.heap.size, rfl, rfl, ?_, ?_, ?_, ?_, ?_⟩); with_reducible exact ⟨put6_ BKN.out⟩; with_reducible exact ⟨far6_ BKP3.out NPN.out⟩; with_reducible exact ⟨far6_ BKR3.out NRN.out⟩; exact ⟨NRN.out.symm⟩; with_reducible exact ⟨set6_ HB3.out GEN.out⟩))
  case rest =>
    obtain ⟨b, rfl, rfl, BKB, BKP2, BKR2, NBR, HB2⟩ := hcut
    clear hp0 hp0d hp0a NPN NRN GEN BKgp BKgr HB
    have SD : wc.drew.cell? ⟨b, 0, none⟩ = _ ∧ _ := bc6_ (blk_drew BKB.out)
    go_upto_region 2 with (fail)
    refine start_ (n := 10) (S := fun w' => w'.cell? ⟨b, 0, none⟩ = some (.nilFunc) ∧ w'.cell? ⟨b, 1, none⟩ = some (.nilFunc) ∧ w'.cell? ⟨b, 2, none⟩ = some (.nilFunc) ∧ w'.cell? ⟨b, 3, none⟩ = some (.nilFunc) ∧ w'.cell? ⟨b, 4, none⟩ = some (.nilFunc) ∧ w'.cell? ⟨b, 5, none⟩ = some (.nilFunc)) (ds := []) #[false, false, false, false, false, false, false, false, false, false] (by kernel_rfl) rfl rfl SD (fun hHeld => ?_)
    refine with_tabW policy_of.tab2 policy_of.bits2 (fun HT_ HW_ => ?_)
    have BKR4 := Aside0.mk (blk_drew BKR2.out)
    have BKB4 := Aside0.mk (blk_drew BKB.out)
    have HB4 := Aside0.mk (below_drew1 HB2.out)
    clear SD BKR2 BKB BKP2 HB2
    generalize wc.drew = w4 at *
    refine chain_ (fuel := 2) [(0, 1, some 13), (1, 0, some 14), (2, 0, some 15), (3, 2, some 16), (4, 2, some 17), (5, 2, some 18), (6, 2, some 19), (7, 0, some 20)] #[true, true, true, true, true, true, true, true, false, false] HT_.out HW_.out (by kernel_rfl) (fun _ _ _ _ _ h => h) (Or.inr hHeld) rfl ?_
    refine lkT ?_; (iterate 2 refine lkP ?_); (iterate 4 refine lkO ?_); refine lkP ?_; refine .nil ?_
    obtain ⟨r0, r1, r2, r3, r4, r5⟩ := bc6_ BKR4.out
    have fr0 := blk_frozen BKR4.out 0
    have fr1 := blk_frozen BKR4.out 1
    have fr2 := blk_frozen BKR4.out 2
    have fr3 := blk_frozen BKR4.out 3
    have fr4 := blk_frozen BKR4.out 4
    have fr5 := blk_frozen BKR4.out 5
    refine one_ (i := 8) (N := none) #[true, true, true, true, true, true, true, true, true, false] rfl rfl (one_of HT_.out (by kernel_rfl)) (by decide) (fun K hK => ?_)
    refine skip_ (w1 := ?_) (by rfl) rfl ?_ ?_
    rotate_left
    · go_simp
      rfl
    refine hK.out _ _ (bc6_ (far6_ BKB4.out NBR.out)) (fun hHeld => ?_)
    clear hK K
    refine chain_ (fuel := 0) [(9, 0, some 3)] #[true, true, true, true, true, true, true, true, true, true] HT_.out HW_.out (by kernel_rfl) (fun _ _ _ _ _ h => h) (Or.inl (by decide)) rfl ?_
    refine lkP ?_; refine .nil ?_
    refine done_ (done_of HT_.out (by kernel_rfl)) ?_
    go_wp2_with (fail)
    with_reducible refine bodyPost_ret (results_ct rfl _ _ gr 80 #[.nilFunc, .nilFunc, .nilFunc, .nilFunc, .nilFunc, .nilFunc] (0, 0) _ rfl (put6_ BKR4.out) hu82 rfl (by kernel_rfl)) rfl ?_
    exact ⟨rfl, set6_ HB4.out GEgr.out⟩

/-! ### policy_Valid: function 28 -/
-- NEEDS WMaps
def policy_Valid.f (a0_0 : Int) (a0_1 : Int) (a0_2 : Int) (a0_3 : Int) (a0_4 : Int) : Option (Bool) := policy_of.ok a0_0 a0_1 a0_2 a0_3 a0_4
set_option maxHeartbeats 1600000 in
set_option maxRecDepth 100000 in
theorem policy_Valid.flow (a0_1 a0_2 a0_3 a0_4 : Int) (r : Bool) (w : World) (h : policy_rules_1.f 1 a0_1 a0_2 a0_3 a0_4 = some r) :
    Calls Tryd.prog 28 #[.agg #[.int .i64 1, .int .u64 a0_1, .int .u64 a0_2, .int .u64 a0_3, .int .u64 a0_4]] w fun e w' => e = .returned (.bool r) ∧ Below w.heap.size w w' := by
  have HB := Aside0.mk (Below.refl w.heap.size w)
  have H := Aside0.mk h
  clear h
  go_enter Tryd.func28, Tryd.ntmps28
  go_wp2_with (first | ((with_reducible refine gate_dst (N := 1) rfl ?_); refine bx 1 #[.int .i64 1, .int .u64 a0_1, .int .u64 a0_2, .int .u64 a0_3, .int .u64 a0_4] 35 ?_; intro gp hg w_gp hbox hb; have n0_ := bs HB hb; have GEgp := sz HB hg; clear HB ; have HB := n0_; have BKgp := Aside0.mk hbox; clear n0_ hb hbox hg; have cgp_0 : w_gp.cell? ⟨gp, 0, none⟩ = some (.int .i64 1) := (blk_cell BKgp.out 0).trans rfl; have cgp_1 : w_gp.cell? ⟨gp, 1, none⟩ = some (.int .u64 a0_1) := (blk_cell BKgp.out 1).trans rfl; have cgp_2 : w_gp.cell? ⟨gp, 2, none⟩ = some (.int .u64 a0_2) := (blk_cell BKgp.out 2).trans rfl; have cgp_3 : w_gp.cell? ⟨gp, 3, none⟩ = some (.int .u64 a0_3) := (blk_cell BKgp.out 3).trans rfl; have cgp_4 : w_gp.cell? ⟨gp, 4, none⟩ = some (.int .u64 a0_4) := (blk_cell BKgp.out 4).trans rfl) | (go_at_call 38; refine (policy_of.flow _ _ _ _ r _ H.out).mono ?_; rintro e w2 ⟨rfl, hb⟩; have n_gp := bb BKgp hb; have n0_ := bs HB hb; clear HB BKgp; have HB := n0_; clear n0_; have BKgp := n_gp; clear n_gp; clear hb))
  go_ret
  exact ⟨rfl, below_alloc HB.out _⟩
set_option maxHeartbeats 1600000 in
set_option maxRecDepth 100000 in
theorem policy_Valid.grid (a0_1 a0_2 a0_3 a0_4 : Int) (r : Bool) (w : World) (h : policy_rules_7.f 2 a0_1 a0_2 a0_3 a0_4 = some r) :
    Calls Tryd.prog 28 #[.agg #[.int .i64 2, .int .u64 a0_1, .int .u64 a0_2, .int .u64 a0_3, .int .u64 a0_4]] w fun e w' => e = .returned (.bool r) ∧ Below w.heap.size w w' := by
  have HB := Aside0.mk (Below.refl w.heap.size w)
  have H := Aside0.mk h
  clear h
  go_enter Tryd.func28, Tryd.ntmps28
  go_wp2_with (first | ((with_reducible refine gate_dst (N := 1) rfl ?_); refine bx 1 #[.int .i64 2, .int .u64 a0_1, .int .u64 a0_2, .int .u64 a0_3, .int .u64 a0_4] 35 ?_; intro gp hg w_gp hbox hb; have n0_ := bs HB hb; have GEgp := sz HB hg; clear HB ; have HB := n0_; have BKgp := Aside0.mk hbox; clear n0_ hb hbox hg; have cgp_0 : w_gp.cell? ⟨gp, 0, none⟩ = some (.int .i64 2) := (blk_cell BKgp.out 0).trans rfl; have cgp_1 : w_gp.cell? ⟨gp, 1, none⟩ = some (.int .u64 a0_1) := (blk_cell BKgp.out 1).trans rfl; have cgp_2 : w_gp.cell? ⟨gp, 2, none⟩ = some (.int .u64 a0_2) := (blk_cell BKgp.out 2).trans rfl; have cgp_3 : w_gp.cell? ⟨gp, 3, none⟩ = some (.int .u64 a0_3) := (blk_cell BKgp.out 3).trans rfl; have cgp_4 : w_gp.cell? ⟨gp, 4, none⟩ = some (.int .u64 a0_4) := (blk_cell BKgp.out 4).trans rfl) | (go_at_call 38; refine (policy_of.grid _ _ _ _ r _ H.out).mono ?_; rintro e w2 ⟨rfl, hb⟩; have n_gp := bb BKgp hb; have n0_ := bs HB hb; clear HB BKgp; have HB := n0_; clear n0_; have BKgp := n_gp; clear n_gp; clear hb))
  go_ret
  exact ⟨rfl, below_alloc HB.out _⟩
set_option maxHeartbeats 1600000 in
set_option maxRecDepth 100000 in
theorem policy_Valid.other (a0_0 a0_1 a0_2 a0_3 a0_4 : Int) (w : World) (hn1 : a0_0 ≠ 1) (hn2 : a0_0 ≠ 2) :
    Calls Tryd.prog 28 #[.agg #[.int .i64 a0_0, .int .u64 a0_1, .int .u64 a0_2, .int .u64 a0_3, .int .u64 a0_4]] w fun e w' => e = .returned (.bool false) ∧ Below w.heap.size w w' := by
  have HB := Aside0.mk (Below.refl w.heap.size w)
  have H1 := Aside0.mk hn1
  have H2 := Aside0.mk hn2
  clear hn1 hn2
  go_enter Tryd.func28, Tryd.ntmps28
  go_wp2_with (first | ((with_reducible refine gate_dst (N := 1) rfl ?_); refine bx 1 #[.int .i64 a0_0, .int .u64 a0_1, .int .u64 a0_2, .int .u64 a0_3, .int .u64 a0_4] 35 ?_; intro gp hg w_gp hbox hb; have n0_ := bs HB hb; have GEgp := sz HB hg; clear HB ; have HB := n0_; have BKgp := Aside0.mk hbox; clear n0_ hb hbox hg; have cgp_0 : w_gp.cell? ⟨gp, 0, none⟩ = some (.int .i64 a0_0) := (blk_cell BKgp.out 0).trans rfl; have cgp_1 : w_gp.cell? ⟨gp, 1, none⟩ = some (.int .u64 a0_1) := (blk_cell BKgp.out 1).trans rfl; have cgp_2 : w_gp.cell? ⟨gp, 2, none⟩ = some (.int .u64 a0_2) := (blk_cell BKgp.out 2).trans rfl; have cgp_3 : w_gp.cell? ⟨gp, 3, none⟩ = some (.int .u64 a0_3) := (blk_cell BKgp.out 3).trans rfl; have cgp_4 : w_gp.cell? ⟨gp, 4, none⟩ = some (.int .u64 a0_4) := (blk_cell BKgp.out 4).trans rfl) | (go_at_call 38; refine (policy_of.other _ _ _ _ _ _ H1.out H2.out).mono ?_; rintro e w2 ⟨rfl, hb⟩; have n_gp := bb BKgp hb; have n0_ := bs HB hb; clear HB BKgp; have HB := n0_; clear n0_; have BKgp := n_gp; clear n_gp; clear hb))
  go_ret
  exact ⟨rfl, below_alloc HB.out _⟩
theorem policy_Valid.calls (a0_0 : Int) (a0_1 : Int) (a0_2 : Int) (a0_3 : Int) (a0_4 : Int) (r : Bool) (w : World) (h : policy_Valid.f a0_0 a0_1 a0_2 a0_3 a0_4 = some r) :
    Calls Tryd.prog 28 #[.agg #[.int .i64 a0_0, .int .u64 a0_1, .int .u64 a0_2, .int .u64 a0_3, .int .u64 a0_4]] w fun e w' => e = .returned (.bool r) ∧ Below w.heap.size w w' := by
  unfold policy_Valid.f policy_of.ok at h
  by_cases c1 : a0_0 = 1
  · subst c1
    rw [if_pos rfl] at h
    exact policy_Valid.flow a0_1 a0_2 a0_3 a0_4 r w h
  · rw [if_neg c1] at h
    by_cases c2 : a0_0 = 2
    · subst c2
      rw [if_pos rfl] at h
      exact policy_Valid.grid a0_1 a0_2 a0_3 a0_4 r w h
    · rw [if_neg c2] at h
      obtain rfl := Option.some.inj h
      exact policy_Valid.other a0_0 a0_1 a0_2 a0_3 a0_4 w c1 c2

end Go.Proofs.YtnhngjhodcikiaaDoor.F
