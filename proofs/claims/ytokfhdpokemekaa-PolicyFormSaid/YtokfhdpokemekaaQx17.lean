/- Written by the session's own program hyb.py: what functions of the program compute; Lean checks it. -/
import Derived.Test.YtokfhdpokemekaaQx0
import Derived.Test.YtokfhdpokemekaaQx4
import Derived.Test.YtokfhdpokemekaaQx12
import Derived.Test.YtokfhdpokemekaaQx13
import Derived.Test.YtokfhdpokemekaaQx14
import Derived.Test.YtokfhdpokemekaaQx15
import Derived.Test.YtokfhdpokemekaaWMaps
namespace Go.Proofs.Ytokfhdpokemekaa.Q
open Go.RowKit Go.Proofs.YtokfhdpokemekaaW.PrintWords Go.Proofs.YtokfhdpokemekaaW.PrintLast Go.Proofs.YtokfhdpokemekaaW.PrintMore Go.Proofs.YtokfhdpokemekaaW.PrintShort
attribute [local go_sem] run_Add64 run_Sub64
attribute [local go_sem] max2_int min2_int max_two min_two max_three min_three max_four min_four   -- for this text's walks alone
set_option linter.unusedVariables false
set_option linter.unusedSimpArgs false

/-! ### policy_Left: function 17 -/
-- NEEDS WMaps
def policy_Left.f (k : Nat) (a0_0 : Int) (a0_1 : Int) (a0_2 : Int) (a0_3 : Int) (a0_4 : Int) (a1_0 : Int) (a1_1 : Int) (a1_2 : Int) (a2 : Int) : Option (Int) := (policy_of.ok a0_0 a0_1 a0_2 a0_3 a0_4).bind fun t => (if t = true then (if a0_0 = 1 then (policy_rules_5.f k 1 a0_1 a0_2 a0_3 a0_4 a1_0 a1_1 a1_2 a2) else (policy_rules_11.f 2 a0_1 a0_2 a0_3 a0_4 a1_0 a1_1 a1_2 a2)) else (some 0))
theorem policy_Left.mono : ∀ a0_0 a0_1 a0_2 a0_3 a0_4 a1_0 a1_1 a1_2 a2 k, LeO (policy_Left.f k a0_0 a0_1 a0_2 a0_3 a0_4 a1_0 a1_1 a1_2 a2) (policy_Left.f (k + 1) a0_0 a0_1 a0_2 a0_3 a0_4 a1_0 a1_1 a1_2 a2) := by
  intro a0_0 a0_1 a0_2 a0_3 a0_4 a1_0 a1_1 a1_2 a2 k
  unfold policy_Left.f
  repeat' first
      | (with_reducible exact policy_rules_5.mono _ _ _ _ _ _ _ _ _ _)
      | (with_reducible exact LeO.refl _)
      | (with_reducible exact LeO.none _)
      | (with_reducible refine LeO.ite ?_ ?_)
      | (with_reducible refine LeO.bind ?_ (fun _ => ?_))
      | exact LeO.none _
      | refine LeO.ite ?_ ?_
      | refine LeO.bind ?_ (fun _ => ?_)
set_option maxHeartbeats 1600000 in
set_option maxRecDepth 100000 in
theorem policy_Left.flow (a0_1 a0_2 a0_3 a0_4 : Int) (k : Nat) (a1_0 a1_1 a1_2 a2 : Int) (r : Int) (w : World) (h : policy_rules_1.f 1 a0_1 a0_2 a0_3 a0_4 = some true) (h1 : policy_rules_5.f k 1 a0_1 a0_2 a0_3 a0_4 a1_0 a1_1 a1_2 a2 = some r) :
    Calls Try.prog 17 #[.agg #[.int .i64 1, .int .u64 a0_1, .int .u64 a0_2, .int .u64 a0_3, .int .u64 a0_4], .agg #[.int .u64 a1_0, .int .u64 a1_1, .int .u64 a1_2], .int .u64 a2] w fun e w' => e = .returned (.int .u64 r) ∧ Below w.heap.size w w' := by
  have HB := Aside0.mk (Below.refl w.heap.size w)
  have H := Aside0.mk h
  clear h
  have HX1 := Aside0.mk h1
  clear h1
  have hu29 := Try.underlying29
  go_enter Try.func17, Try.ntmps17
  go_upto_region 2 with (first | ((with_reducible refine gate_dst (N := 3) rfl ?_); refine bx 3 #[.int .i64 1, .int .u64 a0_1, .int .u64 a0_2, .int .u64 a0_3, .int .u64 a0_4] 27 ?_; intro gp hg w_gp hbox hb; have n0_ := bs HB hb; have GEgp := sz HB hg; clear HB ; have HB := n0_; have BKgp := Aside0.mk hbox; clear n0_ hb hbox hg) | ((with_reducible refine gate_dst (N := 4) rfl ?_); refine bx 4 #[.int .u64 a1_0, .int .u64 a1_1, .int .u64 a1_2] 29 ?_; intro gv hg w_gv hbox hb; have n_gp := bb BKgp hb; have e_gp := nl BKgp hg; have n0_ := bs HB hb; have GEgv := sz HB hg; clear HB BKgp; have HB := n0_; have BKgp := n_gp; have NEgp_gv := e_gp; clear n_gp e_gp; have BKgv := Aside0.mk hbox; clear n0_ hb hbox hg; have cgp_0 : w_gv.cell? ⟨gp, 0, none⟩ = some (.int .i64 1) := (blk_cell BKgp.out 0).trans rfl; have cgp_1 : w_gv.cell? ⟨gp, 1, none⟩ = some (.int .u64 a0_1) := (blk_cell BKgp.out 1).trans rfl; have cgp_2 : w_gv.cell? ⟨gp, 2, none⟩ = some (.int .u64 a0_2) := (blk_cell BKgp.out 2).trans rfl; have cgp_3 : w_gv.cell? ⟨gp, 3, none⟩ = some (.int .u64 a0_3) := (blk_cell BKgp.out 3).trans rfl; have cgp_4 : w_gv.cell? ⟨gp, 4, none⟩ = some (.int .u64 a0_4) := (blk_cell BKgp.out 4).trans rfl) | (go_at_call 47; refine (policy_of.flow _ _ _ _ true _ H.out).mono ?_; rintro e w2 ⟨rfl, hb⟩; have n_gp := bb BKgp hb; have n_gv := bb BKgv hb; have n0_ := bs HB hb; clear HB BKgp BKgv; have HB := n0_; clear n0_; have BKgp := n_gp; clear n_gp; have BKgv := n_gv; clear n_gv; clear hb))
  have GEgb : Aside0 (w.heap.size ≤ w2.heap.size) := ⟨HB.out.size⟩
  have NEgp_gb : Aside0 (gp ≠ w2.heap.size) := ⟨Nat.ne_of_lt (blk_lt BKgp.out)⟩
  have NEgv_gb : Aside0 (gv ≠ w2.heap.size) := ⟨Nat.ne_of_lt (blk_lt BKgv.out)⟩
  have n_gp := Aside0.mk (blk_alloc BKgp.out (.cells #[.func (.func 79) #[] #[], .func (.func 80) #[] #[], .func (.func 81) #[] #[], .func (.func 82) #[] #[], .func (.func 83) #[] #[], .func (.func 84) #[] #[]] 82))
  have n_gv := Aside0.mk (blk_alloc BKgv.out (.cells #[.func (.func 79) #[] #[], .func (.func 80) #[] #[], .func (.func 81) #[] #[], .func (.func 82) #[] #[], .func (.func 83) #[] #[], .func (.func 84) #[] #[]] 82))
  have BKgb : Aside0 ((w2.alloc (.cells #[.func (.func 79) #[] #[], .func (.func 80) #[] #[], .func (.func 81) #[] #[], .func (.func 82) #[] #[], .func (.func 83) #[] #[], .func (.func 84) #[] #[]] 82)).heap[w2.heap.size]? = _) := ⟨blk_new _ _⟩
  have n0_ := Aside0.mk (below_alloc HB.out (.cells #[.func (.func 79) #[] #[], .func (.func 80) #[] #[], .func (.func 81) #[] #[], .func (.func 82) #[] #[], .func (.func 83) #[] #[], .func (.func 84) #[] #[]] 82))
  clear HB BKgp BKgv
  have HB := n0_
  clear n0_
  have BKgp := n_gp
  have BKgv := n_gv
  clear n_gp n_gv
  generalize (w2.alloc (.cells #[.func (.func 79) #[] #[], .func (.func 80) #[] #[], .func (.func 81) #[] #[], .func (.func 82) #[] #[], .func (.func 83) #[] #[], .func (.func 84) #[] #[]] 82)) = w3 at *
  generalize w2.heap.size = gb at *
  have cgb_4 : w3.cell? ⟨gb, 4, none⟩ = some (.func (.func 83) #[] #[]) := (blk_cell BKgb.out 4).trans rfl
  have cgp_0 : w3.cell? ⟨gp, 0, none⟩ = some (.int .i64 1) := (blk_cell BKgp.out 0).trans rfl
  have cgp_1 : w3.cell? ⟨gp, 1, none⟩ = some (.int .u64 a0_1) := (blk_cell BKgp.out 1).trans rfl
  have cgp_2 : w3.cell? ⟨gp, 2, none⟩ = some (.int .u64 a0_2) := (blk_cell BKgp.out 2).trans rfl
  have cgp_3 : w3.cell? ⟨gp, 3, none⟩ = some (.int .u64 a0_3) := (blk_cell BKgp.out 3).trans rfl
  have cgp_4 : w3.cell? ⟨gp, 4, none⟩ = some (.int .u64 a0_4) := (blk_cell BKgp.out 4).trans rfl
  have fgp_0 : w3.frozen? ⟨gp, 0, none⟩ = false := blk_frozen BKgp.out 0
  have fgp_1 : w3.frozen? ⟨gp, 1, none⟩ = false := blk_frozen BKgp.out 1
  have fgp_2 : w3.frozen? ⟨gp, 2, none⟩ = false := blk_frozen BKgp.out 2
  have fgp_3 : w3.frozen? ⟨gp, 3, none⟩ = false := blk_frozen BKgp.out 3
  have fgp_4 : w3.frozen? ⟨gp, 4, none⟩ = false := blk_frozen BKgp.out 4
  have cgv_0 : w3.cell? ⟨gv, 0, none⟩ = some (.int .u64 a1_0) := (blk_cell BKgv.out 0).trans rfl
  have cgv_1 : w3.cell? ⟨gv, 1, none⟩ = some (.int .u64 a1_1) := (blk_cell BKgv.out 1).trans rfl
  have cgv_2 : w3.cell? ⟨gv, 2, none⟩ = some (.int .u64 a1_2) := (blk_cell BKgv.out 2).trans rfl
  have fgv_0 : w3.frozen? ⟨gv, 0, none⟩ = false := blk_frozen BKgv.out 0
  have fgv_1 : w3.frozen? ⟨gv, 1, none⟩ = false := blk_frozen BKgv.out 1
  have fgv_2 : w3.frozen? ⟨gv, 2, none⟩ = false := blk_frozen BKgv.out 2
  go_wp2_with (first | (go_at_call 83; refine (policy_rules_5.calls k 1 a0_1 a0_2 a0_3 a0_4 a1_0 a1_1 a1_2 a2 r _ HX1.out).mono ?_; rintro e w4 ⟨rfl, hb⟩; have n_gp := bb BKgp hb; have n_gv := bb BKgv hb; have n_gb := bb BKgb hb; have n0_ := bs HB hb; clear HB BKgp BKgv BKgb; have HB := n0_; clear n0_; have BKgp := n_gp; clear n_gp; have BKgv := n_gv; clear n_gv; have BKgb := n_gb; clear n_gb; clear hb))
  go_ret
  exact ⟨rfl, HB.out⟩
set_option maxHeartbeats 1600000 in
set_option maxRecDepth 100000 in
theorem policy_Left.flow_no (a0_1 a0_2 a0_3 a0_4 : Int) (a1_0 a1_1 a1_2 a2 : Int) (w : World) (h : policy_rules_1.f 1 a0_1 a0_2 a0_3 a0_4 = some false) :
    Calls Try.prog 17 #[.agg #[.int .i64 1, .int .u64 a0_1, .int .u64 a0_2, .int .u64 a0_3, .int .u64 a0_4], .agg #[.int .u64 a1_0, .int .u64 a1_1, .int .u64 a1_2], .int .u64 a2] w fun e w' => e = .returned (.int .u64 0) ∧ Below w.heap.size w w' := by
  have HB := Aside0.mk (Below.refl w.heap.size w)
  have H := Aside0.mk h
  clear h
  have hu29 := Try.underlying29
  go_enter Try.func17, Try.ntmps17
  go_upto_region 2 with (first | ((with_reducible refine gate_dst (N := 3) rfl ?_); refine bx 3 #[.int .i64 1, .int .u64 a0_1, .int .u64 a0_2, .int .u64 a0_3, .int .u64 a0_4] 27 ?_; intro gp hg w_gp hbox hb; have n0_ := bs HB hb; have GEgp := sz HB hg; clear HB ; have HB := n0_; have BKgp := Aside0.mk hbox; clear n0_ hb hbox hg) | ((with_reducible refine gate_dst (N := 4) rfl ?_); refine bx 4 #[.int .u64 a1_0, .int .u64 a1_1, .int .u64 a1_2] 29 ?_; intro gv hg w_gv hbox hb; have n_gp := bb BKgp hb; have e_gp := nl BKgp hg; have n0_ := bs HB hb; have GEgv := sz HB hg; clear HB BKgp; have HB := n0_; have BKgp := n_gp; have NEgp_gv := e_gp; clear n_gp e_gp; have BKgv := Aside0.mk hbox; clear n0_ hb hbox hg; have cgp_0 : w_gv.cell? ⟨gp, 0, none⟩ = some (.int .i64 1) := (blk_cell BKgp.out 0).trans rfl; have cgp_1 : w_gv.cell? ⟨gp, 1, none⟩ = some (.int .u64 a0_1) := (blk_cell BKgp.out 1).trans rfl; have cgp_2 : w_gv.cell? ⟨gp, 2, none⟩ = some (.int .u64 a0_2) := (blk_cell BKgp.out 2).trans rfl; have cgp_3 : w_gv.cell? ⟨gp, 3, none⟩ = some (.int .u64 a0_3) := (blk_cell BKgp.out 3).trans rfl; have cgp_4 : w_gv.cell? ⟨gp, 4, none⟩ = some (.int .u64 a0_4) := (blk_cell BKgp.out 4).trans rfl) | (go_at_call 47; refine (policy_of.flow _ _ _ _ false _ H.out).mono ?_; rintro e w2 ⟨rfl, hb⟩; have n_gp := bb BKgp hb; have n_gv := bb BKgv hb; have n0_ := bs HB hb; clear HB BKgp BKgv; have HB := n0_; clear n0_; have BKgp := n_gp; clear n_gp; have BKgv := n_gv; clear n_gv; clear hb))
  have GEgb : Aside0 (w.heap.size ≤ w2.heap.size) := ⟨HB.out.size⟩
  have NEgp_gb : Aside0 (gp ≠ w2.heap.size) := ⟨Nat.ne_of_lt (blk_lt BKgp.out)⟩
  have NEgv_gb : Aside0 (gv ≠ w2.heap.size) := ⟨Nat.ne_of_lt (blk_lt BKgv.out)⟩
  have n_gp := Aside0.mk (blk_alloc BKgp.out (.cells #[.func (.func 79) #[] #[], .func (.func 80) #[] #[], .func (.func 81) #[] #[], .func (.func 82) #[] #[], .func (.func 83) #[] #[], .func (.func 84) #[] #[]] 82))
  have n_gv := Aside0.mk (blk_alloc BKgv.out (.cells #[.func (.func 79) #[] #[], .func (.func 80) #[] #[], .func (.func 81) #[] #[], .func (.func 82) #[] #[], .func (.func 83) #[] #[], .func (.func 84) #[] #[]] 82))
  have BKgb : Aside0 ((w2.alloc (.cells #[.func (.func 79) #[] #[], .func (.func 80) #[] #[], .func (.func 81) #[] #[], .func (.func 82) #[] #[], .func (.func 83) #[] #[], .func (.func 84) #[] #[]] 82)).heap[w2.heap.size]? = _) := ⟨blk_new _ _⟩
  have n0_ := Aside0.mk (below_alloc HB.out (.cells #[.func (.func 79) #[] #[], .func (.func 80) #[] #[], .func (.func 81) #[] #[], .func (.func 82) #[] #[], .func (.func 83) #[] #[], .func (.func 84) #[] #[]] 82))
  clear HB BKgp BKgv
  have HB := n0_
  clear n0_
  have BKgp := n_gp
  have BKgv := n_gv
  clear n_gp n_gv
  generalize (w2.alloc (.cells #[.func (.func 79) #[] #[], .func (.func 80) #[] #[], .func (.func 81) #[] #[], .func (.func 82) #[] #[], .func (.func 83) #[] #[], .func (.func 84) #[] #[]] 82)) = w3 at *
  generalize w2.heap.size = gb at *
  go_wp2_with (fail)
  go_ret
  exact ⟨rfl, HB.out⟩
set_option maxHeartbeats 1600000 in
set_option maxRecDepth 100000 in
theorem policy_Left.grid (a0_1 a0_2 a0_3 a0_4 : Int) (a1_0 a1_1 a1_2 a2 : Int) (r : Int) (w : World) (h : policy_rules_7.f 2 a0_1 a0_2 a0_3 a0_4 = some true) (h1 : policy_rules_11.f 2 a0_1 a0_2 a0_3 a0_4 a1_0 a1_1 a1_2 a2 = some r) :
    Calls Try.prog 17 #[.agg #[.int .i64 2, .int .u64 a0_1, .int .u64 a0_2, .int .u64 a0_3, .int .u64 a0_4], .agg #[.int .u64 a1_0, .int .u64 a1_1, .int .u64 a1_2], .int .u64 a2] w fun e w' => e = .returned (.int .u64 r) ∧ Below w.heap.size w w' := by
  have HB := Aside0.mk (Below.refl w.heap.size w)
  have H := Aside0.mk h
  clear h
  have HX1 := Aside0.mk h1
  clear h1
  have hu29 := Try.underlying29
  go_enter Try.func17, Try.ntmps17
  go_upto_region 2 with (first | ((with_reducible refine gate_dst (N := 3) rfl ?_); refine bx 3 #[.int .i64 2, .int .u64 a0_1, .int .u64 a0_2, .int .u64 a0_3, .int .u64 a0_4] 27 ?_; intro gp hg w_gp hbox hb; have n0_ := bs HB hb; have GEgp := sz HB hg; clear HB ; have HB := n0_; have BKgp := Aside0.mk hbox; clear n0_ hb hbox hg) | ((with_reducible refine gate_dst (N := 4) rfl ?_); refine bx 4 #[.int .u64 a1_0, .int .u64 a1_1, .int .u64 a1_2] 29 ?_; intro gv hg w_gv hbox hb; have n_gp := bb BKgp hb; have e_gp := nl BKgp hg; have n0_ := bs HB hb; have GEgv := sz HB hg; clear HB BKgp; have HB := n0_; have BKgp := n_gp; have NEgp_gv := e_gp; clear n_gp e_gp; have BKgv := Aside0.mk hbox; clear n0_ hb hbox hg; have cgp_0 : w_gv.cell? ⟨gp, 0, none⟩ = some (.int .i64 2) := (blk_cell BKgp.out 0).trans rfl; have cgp_1 : w_gv.cell? ⟨gp, 1, none⟩ = some (.int .u64 a0_1) := (blk_cell BKgp.out 1).trans rfl; have cgp_2 : w_gv.cell? ⟨gp, 2, none⟩ = some (.int .u64 a0_2) := (blk_cell BKgp.out 2).trans rfl; have cgp_3 : w_gv.cell? ⟨gp, 3, none⟩ = some (.int .u64 a0_3) := (blk_cell BKgp.out 3).trans rfl; have cgp_4 : w_gv.cell? ⟨gp, 4, none⟩ = some (.int .u64 a0_4) := (blk_cell BKgp.out 4).trans rfl) | (go_at_call 47; refine (policy_of.grid _ _ _ _ true _ H.out).mono ?_; rintro e w2 ⟨rfl, hb⟩; have n_gp := bb BKgp hb; have n_gv := bb BKgv hb; have n0_ := bs HB hb; clear HB BKgp BKgv; have HB := n0_; clear n0_; have BKgp := n_gp; clear n_gp; have BKgv := n_gv; clear n_gv; clear hb))
  have GEgb : Aside0 (w.heap.size ≤ w2.heap.size) := ⟨HB.out.size⟩
  have NEgp_gb : Aside0 (gp ≠ w2.heap.size) := ⟨Nat.ne_of_lt (blk_lt BKgp.out)⟩
  have NEgv_gb : Aside0 (gv ≠ w2.heap.size) := ⟨Nat.ne_of_lt (blk_lt BKgv.out)⟩
  have n_gp := Aside0.mk (blk_alloc BKgp.out (.cells #[.func (.func 85) #[] #[], .func (.func 86) #[] #[], .func (.func 87) #[] #[], .func (.func 88) #[] #[], .func (.func 89) #[] #[], .func (.func 90) #[] #[]] 82))
  have n_gv := Aside0.mk (blk_alloc BKgv.out (.cells #[.func (.func 85) #[] #[], .func (.func 86) #[] #[], .func (.func 87) #[] #[], .func (.func 88) #[] #[], .func (.func 89) #[] #[], .func (.func 90) #[] #[]] 82))
  have BKgb : Aside0 ((w2.alloc (.cells #[.func (.func 85) #[] #[], .func (.func 86) #[] #[], .func (.func 87) #[] #[], .func (.func 88) #[] #[], .func (.func 89) #[] #[], .func (.func 90) #[] #[]] 82)).heap[w2.heap.size]? = _) := ⟨blk_new _ _⟩
  have n0_ := Aside0.mk (below_alloc HB.out (.cells #[.func (.func 85) #[] #[], .func (.func 86) #[] #[], .func (.func 87) #[] #[], .func (.func 88) #[] #[], .func (.func 89) #[] #[], .func (.func 90) #[] #[]] 82))
  clear HB BKgp BKgv
  have HB := n0_
  clear n0_
  have BKgp := n_gp
  have BKgv := n_gv
  clear n_gp n_gv
  generalize (w2.alloc (.cells #[.func (.func 85) #[] #[], .func (.func 86) #[] #[], .func (.func 87) #[] #[], .func (.func 88) #[] #[], .func (.func 89) #[] #[], .func (.func 90) #[] #[]] 82)) = w3 at *
  generalize w2.heap.size = gb at *
  have cgb_4 : w3.cell? ⟨gb, 4, none⟩ = some (.func (.func 89) #[] #[]) := (blk_cell BKgb.out 4).trans rfl
  have cgp_0 : w3.cell? ⟨gp, 0, none⟩ = some (.int .i64 2) := (blk_cell BKgp.out 0).trans rfl
  have cgp_1 : w3.cell? ⟨gp, 1, none⟩ = some (.int .u64 a0_1) := (blk_cell BKgp.out 1).trans rfl
  have cgp_2 : w3.cell? ⟨gp, 2, none⟩ = some (.int .u64 a0_2) := (blk_cell BKgp.out 2).trans rfl
  have cgp_3 : w3.cell? ⟨gp, 3, none⟩ = some (.int .u64 a0_3) := (blk_cell BKgp.out 3).trans rfl
  have cgp_4 : w3.cell? ⟨gp, 4, none⟩ = some (.int .u64 a0_4) := (blk_cell BKgp.out 4).trans rfl
  have fgp_0 : w3.frozen? ⟨gp, 0, none⟩ = false := blk_frozen BKgp.out 0
  have fgp_1 : w3.frozen? ⟨gp, 1, none⟩ = false := blk_frozen BKgp.out 1
  have fgp_2 : w3.frozen? ⟨gp, 2, none⟩ = false := blk_frozen BKgp.out 2
  have fgp_3 : w3.frozen? ⟨gp, 3, none⟩ = false := blk_frozen BKgp.out 3
  have fgp_4 : w3.frozen? ⟨gp, 4, none⟩ = false := blk_frozen BKgp.out 4
  have cgv_0 : w3.cell? ⟨gv, 0, none⟩ = some (.int .u64 a1_0) := (blk_cell BKgv.out 0).trans rfl
  have cgv_1 : w3.cell? ⟨gv, 1, none⟩ = some (.int .u64 a1_1) := (blk_cell BKgv.out 1).trans rfl
  have cgv_2 : w3.cell? ⟨gv, 2, none⟩ = some (.int .u64 a1_2) := (blk_cell BKgv.out 2).trans rfl
  have fgv_0 : w3.frozen? ⟨gv, 0, none⟩ = false := blk_frozen BKgv.out 0
  have fgv_1 : w3.frozen? ⟨gv, 1, none⟩ = false := blk_frozen BKgv.out 1
  have fgv_2 : w3.frozen? ⟨gv, 2, none⟩ = false := blk_frozen BKgv.out 2
  go_wp2_with (first | (go_at_call 89; refine (policy_rules_11.calls 2 a0_1 a0_2 a0_3 a0_4 a1_0 a1_1 a1_2 a2 r _ HX1.out).mono ?_; rintro e w4 ⟨rfl, hb⟩; have n_gp := bb BKgp hb; have n_gv := bb BKgv hb; have n_gb := bb BKgb hb; have n0_ := bs HB hb; clear HB BKgp BKgv BKgb; have HB := n0_; clear n0_; have BKgp := n_gp; clear n_gp; have BKgv := n_gv; clear n_gv; have BKgb := n_gb; clear n_gb; clear hb))
  go_ret
  exact ⟨rfl, HB.out⟩
set_option maxHeartbeats 1600000 in
set_option maxRecDepth 100000 in
theorem policy_Left.grid_no (a0_1 a0_2 a0_3 a0_4 : Int) (a1_0 a1_1 a1_2 a2 : Int) (w : World) (h : policy_rules_7.f 2 a0_1 a0_2 a0_3 a0_4 = some false) :
    Calls Try.prog 17 #[.agg #[.int .i64 2, .int .u64 a0_1, .int .u64 a0_2, .int .u64 a0_3, .int .u64 a0_4], .agg #[.int .u64 a1_0, .int .u64 a1_1, .int .u64 a1_2], .int .u64 a2] w fun e w' => e = .returned (.int .u64 0) ∧ Below w.heap.size w w' := by
  have HB := Aside0.mk (Below.refl w.heap.size w)
  have H := Aside0.mk h
  clear h
  have hu29 := Try.underlying29
  go_enter Try.func17, Try.ntmps17
  go_upto_region 2 with (first | ((with_reducible refine gate_dst (N := 3) rfl ?_); refine bx 3 #[.int .i64 2, .int .u64 a0_1, .int .u64 a0_2, .int .u64 a0_3, .int .u64 a0_4] 27 ?_; intro gp hg w_gp hbox hb; have n0_ := bs HB hb; have GEgp := sz HB hg; clear HB ; have HB := n0_; have BKgp := Aside0.mk hbox; clear n0_ hb hbox hg) | ((with_reducible refine gate_dst (N := 4) rfl ?_); refine bx 4 #[.int .u64 a1_0, .int .u64 a1_1, .int .u64 a1_2] 29 ?_; intro gv hg w_gv hbox hb; have n_gp := bb BKgp hb; have e_gp := nl BKgp hg; have n0_ := bs HB hb; have GEgv := sz HB hg; clear HB BKgp; have HB := n0_; have BKgp := n_gp; have NEgp_gv := e_gp; clear n_gp e_gp; have BKgv := Aside0.mk hbox; clear n0_ hb hbox hg; have cgp_0 : w_gv.cell? ⟨gp, 0, none⟩ = some (.int .i64 2) := (blk_cell BKgp.out 0).trans rfl; have cgp_1 : w_gv.cell? ⟨gp, 1, none⟩ = some (.int .u64 a0_1) := (blk_cell BKgp.out 1).trans rfl; have cgp_2 : w_gv.cell? ⟨gp, 2, none⟩ = some (.int .u64 a0_2) := (blk_cell BKgp.out 2).trans rfl; have cgp_3 : w_gv.cell? ⟨gp, 3, none⟩ = some (.int .u64 a0_3) := (blk_cell BKgp.out 3).trans rfl; have cgp_4 : w_gv.cell? ⟨gp, 4, none⟩ = some (.int .u64 a0_4) := (blk_cell BKgp.out 4).trans rfl) | (go_at_call 47; refine (policy_of.grid _ _ _ _ false _ H.out).mono ?_; rintro e w2 ⟨rfl, hb⟩; have n_gp := bb BKgp hb; have n_gv := bb BKgv hb; have n0_ := bs HB hb; clear HB BKgp BKgv; have HB := n0_; clear n0_; have BKgp := n_gp; clear n_gp; have BKgv := n_gv; clear n_gv; clear hb))
  have GEgb : Aside0 (w.heap.size ≤ w2.heap.size) := ⟨HB.out.size⟩
  have NEgp_gb : Aside0 (gp ≠ w2.heap.size) := ⟨Nat.ne_of_lt (blk_lt BKgp.out)⟩
  have NEgv_gb : Aside0 (gv ≠ w2.heap.size) := ⟨Nat.ne_of_lt (blk_lt BKgv.out)⟩
  have n_gp := Aside0.mk (blk_alloc BKgp.out (.cells #[.func (.func 85) #[] #[], .func (.func 86) #[] #[], .func (.func 87) #[] #[], .func (.func 88) #[] #[], .func (.func 89) #[] #[], .func (.func 90) #[] #[]] 82))
  have n_gv := Aside0.mk (blk_alloc BKgv.out (.cells #[.func (.func 85) #[] #[], .func (.func 86) #[] #[], .func (.func 87) #[] #[], .func (.func 88) #[] #[], .func (.func 89) #[] #[], .func (.func 90) #[] #[]] 82))
  have BKgb : Aside0 ((w2.alloc (.cells #[.func (.func 85) #[] #[], .func (.func 86) #[] #[], .func (.func 87) #[] #[], .func (.func 88) #[] #[], .func (.func 89) #[] #[], .func (.func 90) #[] #[]] 82)).heap[w2.heap.size]? = _) := ⟨blk_new _ _⟩
  have n0_ := Aside0.mk (below_alloc HB.out (.cells #[.func (.func 85) #[] #[], .func (.func 86) #[] #[], .func (.func 87) #[] #[], .func (.func 88) #[] #[], .func (.func 89) #[] #[], .func (.func 90) #[] #[]] 82))
  clear HB BKgp BKgv
  have HB := n0_
  clear n0_
  have BKgp := n_gp
  have BKgv := n_gv
  clear n_gp n_gv
  generalize (w2.alloc (.cells #[.func (.func 85) #[] #[], .func (.func 86) #[] #[], .func (.func 87) #[] #[], .func (.func 88) #[] #[], .func (.func 89) #[] #[], .func (.func 90) #[] #[]] 82)) = w3 at *
  generalize w2.heap.size = gb at *
  go_wp2_with (fail)
  go_ret
  exact ⟨rfl, HB.out⟩
set_option maxHeartbeats 1600000 in
set_option maxRecDepth 100000 in
theorem policy_Left.other (a0_0 a0_1 a0_2 a0_3 a0_4 : Int) (a1_0 a1_1 a1_2 a2 : Int) (w : World) (hn1 : a0_0 ≠ 1) (hn2 : a0_0 ≠ 2) :
    Calls Try.prog 17 #[.agg #[.int .i64 a0_0, .int .u64 a0_1, .int .u64 a0_2, .int .u64 a0_3, .int .u64 a0_4], .agg #[.int .u64 a1_0, .int .u64 a1_1, .int .u64 a1_2], .int .u64 a2] w fun e w' => e = .returned (.int .u64 0) ∧ Below w.heap.size w w' := by
  have HB := Aside0.mk (Below.refl w.heap.size w)
  have H1 := Aside0.mk hn1
  have H2 := Aside0.mk hn2
  clear hn1 hn2
  have hu29 := Try.underlying29
  go_enter Try.func17, Try.ntmps17
  go_upto_region 2 with (first | ((with_reducible refine gate_dst (N := 3) rfl ?_); refine bx 3 #[.int .i64 a0_0, .int .u64 a0_1, .int .u64 a0_2, .int .u64 a0_3, .int .u64 a0_4] 27 ?_; intro gp hg w_gp hbox hb; have n0_ := bs HB hb; have GEgp := sz HB hg; clear HB ; have HB := n0_; have BKgp := Aside0.mk hbox; clear n0_ hb hbox hg) | ((with_reducible refine gate_dst (N := 4) rfl ?_); refine bx 4 #[.int .u64 a1_0, .int .u64 a1_1, .int .u64 a1_2] 29 ?_; intro gv hg w_gv hbox hb; have n_gp := bb BKgp hb; have e_gp := nl BKgp hg; have n0_ := bs HB hb; have GEgv := sz HB hg; clear HB BKgp; have HB := n0_; have BKgp := n_gp; have NEgp_gv := e_gp; clear n_gp e_gp; have BKgv := Aside0.mk hbox; clear n0_ hb hbox hg; have cgp_0 : w_gv.cell? ⟨gp, 0, none⟩ = some (.int .i64 a0_0) := (blk_cell BKgp.out 0).trans rfl; have cgp_1 : w_gv.cell? ⟨gp, 1, none⟩ = some (.int .u64 a0_1) := (blk_cell BKgp.out 1).trans rfl; have cgp_2 : w_gv.cell? ⟨gp, 2, none⟩ = some (.int .u64 a0_2) := (blk_cell BKgp.out 2).trans rfl; have cgp_3 : w_gv.cell? ⟨gp, 3, none⟩ = some (.int .u64 a0_3) := (blk_cell BKgp.out 3).trans rfl; have cgp_4 : w_gv.cell? ⟨gp, 4, none⟩ = some (.int .u64 a0_4) := (blk_cell BKgp.out 4).trans rfl) | (go_at_call 47; refine (policy_of.other _ _ _ _ _ _ H1.out H2.out).mono ?_; rintro e w2 ⟨rfl, hb⟩; have n_gp := bb BKgp hb; have n_gv := bb BKgv hb; have n0_ := bs HB hb; clear HB BKgp BKgv; have HB := n0_; clear n0_; have BKgp := n_gp; clear n_gp; have BKgv := n_gv; clear n_gv; clear hb))
  have GEgb : Aside0 (w.heap.size ≤ w2.heap.size) := ⟨HB.out.size⟩
  have NEgp_gb : Aside0 (gp ≠ w2.heap.size) := ⟨Nat.ne_of_lt (blk_lt BKgp.out)⟩
  have NEgv_gb : Aside0 (gv ≠ w2.heap.size) := ⟨Nat.ne_of_lt (blk_lt BKgv.out)⟩
  have n_gp := Aside0.mk (blk_alloc BKgp.out (.cells #[.nilFunc, .nilFunc, .nilFunc, .nilFunc, .nilFunc, .nilFunc] 82))
  have n_gv := Aside0.mk (blk_alloc BKgv.out (.cells #[.nilFunc, .nilFunc, .nilFunc, .nilFunc, .nilFunc, .nilFunc] 82))
  have BKgb : Aside0 ((w2.alloc (.cells #[.nilFunc, .nilFunc, .nilFunc, .nilFunc, .nilFunc, .nilFunc] 82)).heap[w2.heap.size]? = _) := ⟨blk_new _ _⟩
  have n0_ := Aside0.mk (below_alloc HB.out (.cells #[.nilFunc, .nilFunc, .nilFunc, .nilFunc, .nilFunc, .nilFunc] 82))
  clear HB BKgp BKgv
  have HB := n0_
  clear n0_
  have BKgp := n_gp
  have BKgv := n_gv
  clear n_gp n_gv
  generalize (w2.alloc (.cells #[.nilFunc, .nilFunc, .nilFunc, .nilFunc, .nilFunc, .nilFunc] 82)) = w3 at *
  generalize w2.heap.size = gb at *
  go_wp2_with (fail)
  go_ret
  exact ⟨rfl, HB.out⟩
theorem policy_Left.calls (k : Nat) (a0_0 : Int) (a0_1 : Int) (a0_2 : Int) (a0_3 : Int) (a0_4 : Int) (a1_0 : Int) (a1_1 : Int) (a1_2 : Int) (a2 : Int) (r : Int) (w : World) (h : policy_Left.f k a0_0 a0_1 a0_2 a0_3 a0_4 a1_0 a1_1 a1_2 a2 = some r) :
    Calls Try.prog 17 #[.agg #[.int .i64 a0_0, .int .u64 a0_1, .int .u64 a0_2, .int .u64 a0_3, .int .u64 a0_4], .agg #[.int .u64 a1_0, .int .u64 a1_1, .int .u64 a1_2], .int .u64 a2] w fun e w' => e = .returned (.int .u64 r) ∧ Below w.heap.size w w' := by
  unfold policy_Left.f at h
  obtain ⟨t, ht, h⟩ := Option.bind_eq_some_iff.mp h
  rcases policy_of.parts ht with ⟨rfl, hv⟩ | ⟨rfl, hv⟩ | ⟨c1, c2, rfl⟩
  · cases t with
    | true =>
      rw [if_pos rfl, if_pos rfl] at h
      exact policy_Left.flow a0_1 a0_2 a0_3 a0_4 k a1_0 a1_1 a1_2 a2 r w hv h
    | false =>
      rw [if_neg (by decide)] at h
      obtain rfl := Option.some.inj h
      exact policy_Left.flow_no a0_1 a0_2 a0_3 a0_4 a1_0 a1_1 a1_2 a2 w hv
  · cases t with
    | true =>
      rw [if_pos rfl, if_neg (by decide)] at h
      exact policy_Left.grid a0_1 a0_2 a0_3 a0_4 a1_0 a1_1 a1_2 a2 r w hv h
    | false =>
      rw [if_neg (by decide)] at h
      obtain rfl := Option.some.inj h
      exact policy_Left.grid_no a0_1 a0_2 a0_3 a0_4 a1_0 a1_1 a1_2 a2 w hv
  · rw [if_neg (by decide)] at h
    obtain rfl := Option.some.inj h
    exact policy_Left.other a0_0 a0_1 a0_2 a0_3 a0_4 a1_0 a1_1 a1_2 a2 w c1 c2

end Go.Proofs.Ytokfhdpokemekaa.Q
