/- Written by the session's own program hyb.py: what functions of the program compute; Lean checks it. -/
import Derived.Test.YtokfhdpokemekaaQx0
import Derived.Test.YtokfhdpokemekaaQx4
import Derived.Test.YtokfhdpokemekaaQx13
import Derived.Test.YtokfhdpokemekaaQx15
import Derived.Test.YtokfhdpokemekaaWMaps
namespace Go.Proofs.Ytokfhdpokemekaa.Q
open Go.RowKit Go.Proofs.YtokfhdpokemekaaW.PrintWords Go.Proofs.YtokfhdpokemekaaW.PrintLast Go.Proofs.YtokfhdpokemekaaW.PrintMore Go.Proofs.YtokfhdpokemekaaW.PrintShort
attribute [local go_sem] run_Add64 run_Sub64
attribute [local go_sem] max2_int min2_int max_two min_two max_three min_three max_four min_four   -- for this text's walks alone
set_option linter.unusedVariables false
set_option linter.unusedSimpArgs false

/-! ### policy_Valid: function 18 -/
-- NEEDS WMaps
def policy_Valid.f (a0_0 : Int) (a0_1 : Int) (a0_2 : Int) (a0_3 : Int) (a0_4 : Int) : Option (Bool) := policy_of.ok a0_0 a0_1 a0_2 a0_3 a0_4
set_option maxHeartbeats 1600000 in
set_option maxRecDepth 100000 in
theorem policy_Valid.flow (a0_1 a0_2 a0_3 a0_4 : Int) (r : Bool) (w : World) (h : policy_rules_1.f 1 a0_1 a0_2 a0_3 a0_4 = some r) :
    Calls Try.prog 18 #[.agg #[.int .i64 1, .int .u64 a0_1, .int .u64 a0_2, .int .u64 a0_3, .int .u64 a0_4]] w fun e w' => e = .returned (.bool r) ∧ Below w.heap.size w w' := by
  have HB := Aside0.mk (Below.refl w.heap.size w)
  have H := Aside0.mk h
  clear h
  go_enter Try.func18, Try.ntmps18
  go_wp2_with (first | ((with_reducible refine gate_dst (N := 1) rfl ?_); refine bx 1 #[.int .i64 1, .int .u64 a0_1, .int .u64 a0_2, .int .u64 a0_3, .int .u64 a0_4] 27 ?_; intro gp hg w_gp hbox hb; have n0_ := bs HB hb; have GEgp := sz HB hg; clear HB ; have HB := n0_; have BKgp := Aside0.mk hbox; clear n0_ hb hbox hg; have cgp_0 : w_gp.cell? ⟨gp, 0, none⟩ = some (.int .i64 1) := (blk_cell BKgp.out 0).trans rfl; have cgp_1 : w_gp.cell? ⟨gp, 1, none⟩ = some (.int .u64 a0_1) := (blk_cell BKgp.out 1).trans rfl; have cgp_2 : w_gp.cell? ⟨gp, 2, none⟩ = some (.int .u64 a0_2) := (blk_cell BKgp.out 2).trans rfl; have cgp_3 : w_gp.cell? ⟨gp, 3, none⟩ = some (.int .u64 a0_3) := (blk_cell BKgp.out 3).trans rfl; have cgp_4 : w_gp.cell? ⟨gp, 4, none⟩ = some (.int .u64 a0_4) := (blk_cell BKgp.out 4).trans rfl) | (go_at_call 47; refine (policy_of.flow _ _ _ _ r _ H.out).mono ?_; rintro e w2 ⟨rfl, hb⟩; have n_gp := bb BKgp hb; have n0_ := bs HB hb; clear HB BKgp; have HB := n0_; clear n0_; have BKgp := n_gp; clear n_gp; clear hb))
  go_ret
  exact ⟨rfl, below_alloc HB.out _⟩
set_option maxHeartbeats 1600000 in
set_option maxRecDepth 100000 in
theorem policy_Valid.grid (a0_1 a0_2 a0_3 a0_4 : Int) (r : Bool) (w : World) (h : policy_rules_7.f 2 a0_1 a0_2 a0_3 a0_4 = some r) :
    Calls Try.prog 18 #[.agg #[.int .i64 2, .int .u64 a0_1, .int .u64 a0_2, .int .u64 a0_3, .int .u64 a0_4]] w fun e w' => e = .returned (.bool r) ∧ Below w.heap.size w w' := by
  have HB := Aside0.mk (Below.refl w.heap.size w)
  have H := Aside0.mk h
  clear h
  go_enter Try.func18, Try.ntmps18
  go_wp2_with (first | ((with_reducible refine gate_dst (N := 1) rfl ?_); refine bx 1 #[.int .i64 2, .int .u64 a0_1, .int .u64 a0_2, .int .u64 a0_3, .int .u64 a0_4] 27 ?_; intro gp hg w_gp hbox hb; have n0_ := bs HB hb; have GEgp := sz HB hg; clear HB ; have HB := n0_; have BKgp := Aside0.mk hbox; clear n0_ hb hbox hg; have cgp_0 : w_gp.cell? ⟨gp, 0, none⟩ = some (.int .i64 2) := (blk_cell BKgp.out 0).trans rfl; have cgp_1 : w_gp.cell? ⟨gp, 1, none⟩ = some (.int .u64 a0_1) := (blk_cell BKgp.out 1).trans rfl; have cgp_2 : w_gp.cell? ⟨gp, 2, none⟩ = some (.int .u64 a0_2) := (blk_cell BKgp.out 2).trans rfl; have cgp_3 : w_gp.cell? ⟨gp, 3, none⟩ = some (.int .u64 a0_3) := (blk_cell BKgp.out 3).trans rfl; have cgp_4 : w_gp.cell? ⟨gp, 4, none⟩ = some (.int .u64 a0_4) := (blk_cell BKgp.out 4).trans rfl) | (go_at_call 47; refine (policy_of.grid _ _ _ _ r _ H.out).mono ?_; rintro e w2 ⟨rfl, hb⟩; have n_gp := bb BKgp hb; have n0_ := bs HB hb; clear HB BKgp; have HB := n0_; clear n0_; have BKgp := n_gp; clear n_gp; clear hb))
  go_ret
  exact ⟨rfl, below_alloc HB.out _⟩
set_option maxHeartbeats 1600000 in
set_option maxRecDepth 100000 in
theorem policy_Valid.other (a0_0 a0_1 a0_2 a0_3 a0_4 : Int) (w : World) (hn1 : a0_0 ≠ 1) (hn2 : a0_0 ≠ 2) :
    Calls Try.prog 18 #[.agg #[.int .i64 a0_0, .int .u64 a0_1, .int .u64 a0_2, .int .u64 a0_3, .int .u64 a0_4]] w fun e w' => e = .returned (.bool false) ∧ Below w.heap.size w w' := by
  have HB := Aside0.mk (Below.refl w.heap.size w)
  have H1 := Aside0.mk hn1
  have H2 := Aside0.mk hn2
  clear hn1 hn2
  go_enter Try.func18, Try.ntmps18
  go_wp2_with (first | ((with_reducible refine gate_dst (N := 1) rfl ?_); refine bx 1 #[.int .i64 a0_0, .int .u64 a0_1, .int .u64 a0_2, .int .u64 a0_3, .int .u64 a0_4] 27 ?_; intro gp hg w_gp hbox hb; have n0_ := bs HB hb; have GEgp := sz HB hg; clear HB ; have HB := n0_; have BKgp := Aside0.mk hbox; clear n0_ hb hbox hg; have cgp_0 : w_gp.cell? ⟨gp, 0, none⟩ = some (.int .i64 a0_0) := (blk_cell BKgp.out 0).trans rfl; have cgp_1 : w_gp.cell? ⟨gp, 1, none⟩ = some (.int .u64 a0_1) := (blk_cell BKgp.out 1).trans rfl; have cgp_2 : w_gp.cell? ⟨gp, 2, none⟩ = some (.int .u64 a0_2) := (blk_cell BKgp.out 2).trans rfl; have cgp_3 : w_gp.cell? ⟨gp, 3, none⟩ = some (.int .u64 a0_3) := (blk_cell BKgp.out 3).trans rfl; have cgp_4 : w_gp.cell? ⟨gp, 4, none⟩ = some (.int .u64 a0_4) := (blk_cell BKgp.out 4).trans rfl) | (go_at_call 47; refine (policy_of.other _ _ _ _ _ _ H1.out H2.out).mono ?_; rintro e w2 ⟨rfl, hb⟩; have n_gp := bb BKgp hb; have n0_ := bs HB hb; clear HB BKgp; have HB := n0_; clear n0_; have BKgp := n_gp; clear n_gp; clear hb))
  go_ret
  exact ⟨rfl, below_alloc HB.out _⟩
theorem policy_Valid.calls (a0_0 : Int) (a0_1 : Int) (a0_2 : Int) (a0_3 : Int) (a0_4 : Int) (r : Bool) (w : World) (h : policy_Valid.f a0_0 a0_1 a0_2 a0_3 a0_4 = some r) :
    Calls Try.prog 18 #[.agg #[.int .i64 a0_0, .int .u64 a0_1, .int .u64 a0_2, .int .u64 a0_3, .int .u64 a0_4]] w fun e w' => e = .returned (.bool r) ∧ Below w.heap.size w w' := by
  unfold policy_Valid.f policy_of.ok at h
  by_cases c1 : a0_0 = 1
  · subst c1
    rw [if_pos rfl] at h
    exact policy_Valid.flow a0_1 a0_2 a0_3 a0_4 r w h
  · rw [if_neg c1] at h
    by_cases c2 : a0_0 = 2
    · subst c2
      rw [if_pos rfl] at h
      exact policy_Valid.grid a0_1 a0_2 a0_3 a0_4 r w h
    · rw [if_neg c2] at h
      obtain rfl := Option.some.inj h
      exact policy_Valid.other a0_0 a0_1 a0_2 a0_3 a0_4 w c1 c2

end Go.Proofs.Ytokfhdpokemekaa.Q
