/- Written by the session's own program hyb.py: what functions of the program compute; Lean checks it. -/
import Derived.Test.YtokfhdpokemekaaQx0
import Derived.Test.YtokfhdpokemekaaQx4
import Derived.Test.YtokfhdpokemekaaQx13
import Derived.Test.YtokfhdpokemekaaQx14
import Derived.Test.YtokfhdpokemekaaQx15
import Derived.Test.YtokfhdpokemekaaWMaps
namespace Go.Proofs.Ytokfhdpokemekaa.Q
open Go.RowKit Go.Proofs.YtokfhdpokemekaaW.PrintWords Go.Proofs.YtokfhdpokemekaaW.PrintLast Go.Proofs.YtokfhdpokemekaaW.PrintMore Go.Proofs.YtokfhdpokemekaaW.PrintShort
attribute [local go_sem] run_Add64 run_Sub64
attribute [local go_sem] max2_int min2_int max_two min_two max_three min_three max_four min_four   -- for this text's walks alone
set_option linter.unusedVariables false
set_option linter.unusedSimpArgs false

/-! ### policy_Covers: function 27 -/
-- NEEDS WMaps
def policy_Covers.f (a0_0 : Int) (a0_1 : Int) (a0_2 : Int) (a0_3 : Int) (a0_4 : Int) (a1_0 : Int) (a1_1 : Int) (a1_2 : Int) (a2_0 : Int) (a2_1 : Int) (a2_2 : Int) : Option (Bool) := (policy_of.ok a0_0 a0_1 a0_2 a0_3 a0_4).bind fun t => (if t = true then (if a0_0 = 1 then (policy_rules_6.f a1_0 a1_1 a1_2 a2_0 a2_1 a2_2) else (policy_rules_12.f a1_0 a1_1 a1_2 a2_0 a2_1 a2_2)) else (some false))
set_option maxHeartbeats 1600000 in
set_option maxRecDepth 100000 in
theorem policy_Covers.flow (a0_1 a0_2 a0_3 a0_4 : Int) (a1_0 a1_1 a1_2 a2_0 a2_1 a2_2 : Int) (r : Bool) (w : World) (h : policy_rules_1.f 1 a0_1 a0_2 a0_3 a0_4 = some true) (h1 : policy_rules_6.f a1_0 a1_1 a1_2 a2_0 a2_1 a2_2 = some r) :
    Calls Try.prog 27 #[.agg #[.int .i64 1, .int .u64 a0_1, .int .u64 a0_2, .int .u64 a0_3, .int .u64 a0_4], .agg #[.int .u64 a1_0, .int .u64 a1_1, .int .u64 a1_2], .agg #[.int .u64 a2_0, .int .u64 a2_1, .int .u64 a2_2]] w fun e w' => e = .returned (.bool r) ∧ Below w.heap.size w w' := by
  have HB := Aside0.mk (Below.refl w.heap.size w)
  have H := Aside0.mk h
  clear h
  have HX1 := Aside0.mk h1
  clear h1
  have hu29 := Try.underlying29
  go_enter Try.func27, Try.ntmps27
  go_upto_region 2 with (first | ((with_reducible refine gate_dst (N := 3) rfl ?_); refine bx 3 #[.int .i64 1, .int .u64 a0_1, .int .u64 a0_2, .int .u64 a0_3, .int .u64 a0_4] 27 ?_; intro gp hg w_gp hbox hb; have n0_ := bs HB hb; have GEgp := sz HB hg; clear HB ; have HB := n0_; have BKgp := Aside0.mk hbox; clear n0_ hb hbox hg) | ((with_reducible refine gate_dst (N := 4) rfl ?_); refine bx 4 #[.int .u64 a1_0, .int .u64 a1_1, .int .u64 a1_2] 29 ?_; intro gc hg w_gc hbox hb; have n_gp := bb BKgp hb; have e_gp := nl BKgp hg; have n0_ := bs HB hb; have GEgc := sz HB hg; clear HB BKgp; have HB := n0_; have BKgp := n_gp; have NEgp_gc := e_gp; clear n_gp e_gp; have BKgc := Aside0.mk hbox; clear n0_ hb hbox hg) | ((with_reducible refine gate_dst (N := 5) rfl ?_); refine bx 5 #[.int .u64 a2_0, .int .u64 a2_1, .int .u64 a2_2] 29 ?_; intro gv hg w_gv hbox hb; have n_gp := bb BKgp hb; have e_gp := nl BKgp hg; have n_gc := bb BKgc hb; have e_gc := nl BKgc hg; have n0_ := bs HB hb; have GEgv := sz HB hg; clear HB BKgp BKgc; have HB := n0_; have BKgp := n_gp; have NEgp_gv := e_gp; clear n_gp e_gp; have BKgc := n_gc; have NEgc_gv := e_gc; clear n_gc e_gc; have BKgv := Aside0.mk hbox; clear n0_ hb hbox hg; have cgp_0 : w_gv.cell? ⟨gp, 0, none⟩ = some (.int .i64 1) := (blk_cell BKgp.out 0).trans rfl; have cgp_1 : w_gv.cell? ⟨gp, 1, none⟩ = some (.int .u64 a0_1) := (blk_cell BKgp.out 1).trans rfl; have cgp_2 : w_gv.cell? ⟨gp, 2, none⟩ = some (.int .u64 a0_2) := (blk_cell BKgp.out 2).trans rfl; have cgp_3 : w_gv.cell? ⟨gp, 3, none⟩ = some (.int .u64 a0_3) := (blk_cell BKgp.out 3).trans rfl; have cgp_4 : w_gv.cell? ⟨gp, 4, none⟩ = some (.int .u64 a0_4) := (blk_cell BKgp.out 4).trans rfl) | (go_at_call 47; refine (policy_of.flow _ _ _ _ true _ H.out).mono ?_; rintro e w2 ⟨rfl, hb⟩; have n_gp := bb BKgp hb; have n_gc := bb BKgc hb; have n_gv := bb BKgv hb; have n0_ := bs HB hb; clear HB BKgp BKgc BKgv; have HB := n0_; clear n0_; have BKgp := n_gp; clear n_gp; have BKgc := n_gc; clear n_gc; have BKgv := n_gv; clear n_gv; clear hb))
  have GEgb : Aside0 (w.heap.size ≤ w2.heap.size) := ⟨HB.out.size⟩
  have NEgp_gb : Aside0 (gp ≠ w2.heap.size) := ⟨Nat.ne_of_lt (blk_lt BKgp.out)⟩
  have NEgc_gb : Aside0 (gc ≠ w2.heap.size) := ⟨Nat.ne_of_lt (blk_lt BKgc.out)⟩
  have NEgv_gb : Aside0 (gv ≠ w2.heap.size) := ⟨Nat.ne_of_lt (blk_lt BKgv.out)⟩
  have n_gp := Aside0.mk (blk_alloc BKgp.out (.cells #[.func (.func 79) #[] #[], .func (.func 80) #[] #[], .func (.func 81) #[] #[], .func (.func 82) #[] #[], .func (.func 83) #[] #[], .func (.func 84) #[] #[]] 82))
  have n_gc := Aside0.mk (blk_alloc BKgc.out (.cells #[.func (.func 79) #[] #[], .func (.func 80) #[] #[], .func (.func 81) #[] #[], .func (.func 82) #[] #[], .func (.func 83) #[] #[], .func (.func 84) #[] #[]] 82))
  have n_gv := Aside0.mk (blk_alloc BKgv.out (.cells #[.func (.func 79) #[] #[], .func (.func 80) #[] #[], .func (.func 81) #[] #[], .func (.func 82) #[] #[], .func (.func 83) #[] #[], .func (.func 84) #[] #[]] 82))
  have BKgb : Aside0 ((w2.alloc (.cells #[.func (.func 79) #[] #[], .func (.func 80) #[] #[], .func (.func 81) #[] #[], .func (.func 82) #[] #[], .func (.func 83) #[] #[], .func (.func 84) #[] #[]] 82)).heap[w2.heap.size]? = _) := ⟨blk_new _ _⟩
  have n0_ := Aside0.mk (below_alloc HB.out (.cells #[.func (.func 79) #[] #[], .func (.func 80) #[] #[], .func (.func 81) #[] #[], .func (.func 82) #[] #[], .func (.func 83) #[] #[], .func (.func 84) #[] #[]] 82))
  clear HB BKgp BKgc BKgv
  have HB := n0_
  clear n0_
  have BKgp := n_gp
  have BKgc := n_gc
  have BKgv := n_gv
  clear n_gp n_gc n_gv
  generalize (w2.alloc (.cells #[.func (.func 79) #[] #[], .func (.func 80) #[] #[], .func (.func 81) #[] #[], .func (.func 82) #[] #[], .func (.func 83) #[] #[], .func (.func 84) #[] #[]] 82)) = w3 at *
  generalize w2.heap.size = gb at *
  have cgb_5 : w3.cell? ⟨gb, 5, none⟩ = some (.func (.func 84) #[] #[]) := (blk_cell BKgb.out 5).trans rfl
  have cgc_0 : w3.cell? ⟨gc, 0, none⟩ = some (.int .u64 a1_0) := (blk_cell BKgc.out 0).trans rfl
  have cgc_1 : w3.cell? ⟨gc, 1, none⟩ = some (.int .u64 a1_1) := (blk_cell BKgc.out 1).trans rfl
  have cgc_2 : w3.cell? ⟨gc, 2, none⟩ = some (.int .u64 a1_2) := (blk_cell BKgc.out 2).trans rfl
  have fgc_0 : w3.frozen? ⟨gc, 0, none⟩ = false := blk_frozen BKgc.out 0
  have fgc_1 : w3.frozen? ⟨gc, 1, none⟩ = false := blk_frozen BKgc.out 1
  have fgc_2 : w3.frozen? ⟨gc, 2, none⟩ = false := blk_frozen BKgc.out 2
  have cgv_0 : w3.cell? ⟨gv, 0, none⟩ = some (.int .u64 a2_0) := (blk_cell BKgv.out 0).trans rfl
  have cgv_1 : w3.cell? ⟨gv, 1, none⟩ = some (.int .u64 a2_1) := (blk_cell BKgv.out 1).trans rfl
  have cgv_2 : w3.cell? ⟨gv, 2, none⟩ = some (.int .u64 a2_2) := (blk_cell BKgv.out 2).trans rfl
  have fgv_0 : w3.frozen? ⟨gv, 0, none⟩ = false := blk_frozen BKgv.out 0
  have fgv_1 : w3.frozen? ⟨gv, 1, none⟩ = false := blk_frozen BKgv.out 1
  have fgv_2 : w3.frozen? ⟨gv, 2, none⟩ = false := blk_frozen BKgv.out 2
  go_wp2_with (first | (go_at_call 84; refine ((policy_rules_6.calls a1_0 a1_1 a1_2 a2_0 a2_1 a2_2 r _ HX1.out)).mono ?_; rintro e w4 ⟨rfl, hb⟩; have n_gp := bb BKgp hb; have n_gc := bb BKgc hb; have n_gv := bb BKgv hb; have n_gb := bb BKgb hb; have n0_ := bs HB hb; clear HB BKgp BKgc BKgv BKgb; have HB := n0_; clear n0_; have BKgp := n_gp; clear n_gp; have BKgc := n_gc; clear n_gc; have BKgv := n_gv; clear n_gv; have BKgb := n_gb; clear n_gb; clear hb))
  go_ret
  exact ⟨rfl, HB.out⟩
set_option maxHeartbeats 1600000 in
set_option maxRecDepth 100000 in
theorem policy_Covers.flow_no (a0_1 a0_2 a0_3 a0_4 : Int) (a1_0 a1_1 a1_2 a2_0 a2_1 a2_2 : Int) (w : World) (h : policy_rules_1.f 1 a0_1 a0_2 a0_3 a0_4 = some false) :
    Calls Try.prog 27 #[.agg #[.int .i64 1, .int .u64 a0_1, .int .u64 a0_2, .int .u64 a0_3, .int .u64 a0_4], .agg #[.int .u64 a1_0, .int .u64 a1_1, .int .u64 a1_2], .agg #[.int .u64 a2_0, .int .u64 a2_1, .int .u64 a2_2]] w fun e w' => e = .returned (.bool false) ∧ Below w.heap.size w w' := by
  have HB := Aside0.mk (Below.refl w.heap.size w)
  have H := Aside0.mk h
  clear h
  have hu29 := Try.underlying29
  go_enter Try.func27, Try.ntmps27
  go_upto_region 2 with (first | ((with_reducible refine gate_dst (N := 3) rfl ?_); refine bx 3 #[.int .i64 1, .int .u64 a0_1, .int .u64 a0_2, .int .u64 a0_3, .int .u64 a0_4] 27 ?_; intro gp hg w_gp hbox hb; have n0_ := bs HB hb; have GEgp := sz HB hg; clear HB ; have HB := n0_; have BKgp := Aside0.mk hbox; clear n0_ hb hbox hg) | ((with_reducible refine gate_dst (N := 4) rfl ?_); refine bx 4 #[.int .u64 a1_0, .int .u64 a1_1, .int .u64 a1_2] 29 ?_; intro gc hg w_gc hbox hb; have n_gp := bb BKgp hb; have e_gp := nl BKgp hg; have n0_ := bs HB hb; have GEgc := sz HB hg; clear HB BKgp; have HB := n0_; have BKgp := n_gp; have NEgp_gc := e_gp; clear n_gp e_gp; have BKgc := Aside0.mk hbox; clear n0_ hb hbox hg) | ((with_reducible refine gate_dst (N := 5) rfl ?_); refine bx 5 #[.int .u64 a2_0, .int .u64 a2_1, .int .u64 a2_2] 29 ?_; intro gv hg w_gv hbox hb; have n_gp := bb BKgp hb; have e_gp := nl BKgp hg; have n_gc := bb BKgc hb; have e_gc := nl BKgc hg; have n0_ := bs HB hb; have GEgv := sz HB hg; clear HB BKgp BKgc; have HB := n0_; have BKgp := n_gp; have NEgp_gv := e_gp; clear n_gp e_gp; have BKgc := n_gc; have NEgc_gv := e_gc; clear n_gc e_gc; have BKgv := Aside0.mk hbox; clear n0_ hb hbox hg; have cgp_0 : w_gv.cell? ⟨gp, 0, none⟩ = some (.int .i64 1) := (blk_cell BKgp.out 0).trans rfl; have cgp_1 : w_gv.cell? ⟨gp, 1, none⟩ = some (.int .u64 a0_1) := (blk_cell BKgp.out 1).trans rfl; have cgp_2 : w_gv.cell? ⟨gp, 2, none⟩ = some (.int .u64 a0_2) := (blk_cell BKgp.out 2).trans rfl; have cgp_3 : w_gv.cell? ⟨gp, 3, none⟩ = some (.int .u64 a0_3) := (blk_cell BKgp.out 3).trans rfl; have cgp_4 : w_gv.cell? ⟨gp, 4, none⟩ = some (.int .u64 a0_4) := (blk_cell BKgp.out 4).trans rfl) | (go_at_call 47; refine (policy_of.flow _ _ _ _ false _ H.out).mono ?_; rintro e w2 ⟨rfl, hb⟩; have n_gp := bb BKgp hb; have n_gc := bb BKgc hb; have n_gv := bb BKgv hb; have n0_ := bs HB hb; clear HB BKgp BKgc BKgv; have HB := n0_; clear n0_; have BKgp := n_gp; clear n_gp; have BKgc := n_gc; clear n_gc; have BKgv := n_gv; clear n_gv; clear hb))
  have GEgb : Aside0 (w.heap.size ≤ w2.heap.size) := ⟨HB.out.size⟩
  have NEgp_gb : Aside0 (gp ≠ w2.heap.size) := ⟨Nat.ne_of_lt (blk_lt BKgp.out)⟩
  have NEgc_gb : Aside0 (gc ≠ w2.heap.size) := ⟨Nat.ne_of_lt (blk_lt BKgc.out)⟩
  have NEgv_gb : Aside0 (gv ≠ w2.heap.size) := ⟨Nat.ne_of_lt (blk_lt BKgv.out)⟩
  have n_gp := Aside0.mk (blk_alloc BKgp.out (.cells #[.func (.func 79) #[] #[], .func (.func 80) #[] #[], .func (.func 81) #[] #[], .func (.func 82) #[] #[], .func (.func 83) #[] #[], .func (.func 84) #[] #[]] 82))
  have n_gc := Aside0.mk (blk_alloc BKgc.out (.cells #[.func (.func 79) #[] #[], .func (.func 80) #[] #[], .func (.func 81) #[] #[], .func (.func 82) #[] #[], .func (.func 83) #[] #[], .func (.func 84) #[] #[]] 82))
  have n_gv := Aside0.mk (blk_alloc BKgv.out (.cells #[.func (.func 79) #[] #[], .func (.func 80) #[] #[], .func (.func 81) #[] #[], .func (.func 82) #[] #[], .func (.func 83) #[] #[], .func (.func 84) #[] #[]] 82))
  have BKgb : Aside0 ((w2.alloc (.cells #[.func (.func 79) #[] #[], .func (.func 80) #[] #[], .func (.func 81) #[] #[], .func (.func 82) #[] #[], .func (.func 83) #[] #[], .func (.func 84) #[] #[]] 82)).heap[w2.heap.size]? = _) := ⟨blk_new _ _⟩
  have n0_ := Aside0.mk (below_alloc HB.out (.cells #[.func (.func 79) #[] #[], .func (.func 80) #[] #[], .func (.func 81) #[] #[], .func (.func 82) #[] #[], .func (.func 83) #[] #[], .func (.func 84) #[] #[]] 82))
  clear HB BKgp BKgc BKgv
  have HB := n0_
  clear n0_
  have BKgp := n_gp
  have BKgc := n_gc
  have BKgv := n_gv
  clear n_gp n_gc n_gv
  generalize (w2.alloc (.cells #[.func (.func 79) #[] #[], .func (.func 80) #[] #[], .func (.func 81) #[] #[], .func (.func 82) #[] #[], .func (.func 83) #[] #[], .func (.func 84) #[] #[]] 82)) = w3 at *
  generalize w2.heap.size = gb at *
  go_wp2_with (fail)
  go_ret
  exact ⟨rfl, HB.out⟩
set_option maxHeartbeats 1600000 in
set_option maxRecDepth 100000 in
theorem policy_Covers.grid (a0_1 a0_2 a0_3 a0_4 : Int) (a1_0 a1_1 a1_2 a2_0 a2_1 a2_2 : Int) (r : Bool) (w : World) (h : policy_rules_7.f 2 a0_1 a0_2 a0_3 a0_4 = some true) (h1 : policy_rules_12.f a1_0 a1_1 a1_2 a2_0 a2_1 a2_2 = some r) :
    Calls Try.prog 27 #[.agg #[.int .i64 2, .int .u64 a0_1, .int .u64 a0_2, .int .u64 a0_3, .int .u64 a0_4], .agg #[.int .u64 a1_0, .int .u64 a1_1, .int .u64 a1_2], .agg #[.int .u64 a2_0, .int .u64 a2_1, .int .u64 a2_2]] w fun e w' => e = .returned (.bool r) ∧ Below w.heap.size w w' := by
  have HB := Aside0.mk (Below.refl w.heap.size w)
  have H := Aside0.mk h
  clear h
  have HX1 := Aside0.mk h1
  clear h1
  have hu29 := Try.underlying29
  go_enter Try.func27, Try.ntmps27
  go_upto_region 2 with (first | ((with_reducible refine gate_dst (N := 3) rfl ?_); refine bx 3 #[.int .i64 2, .int .u64 a0_1, .int .u64 a0_2, .int .u64 a0_3, .int .u64 a0_4] 27 ?_; intro gp hg w_gp hbox hb; have n0_ := bs HB hb; have GEgp := sz HB hg; clear HB ; have HB := n0_; have BKgp := Aside0.mk hbox; clear n0_ hb hbox hg) | ((with_reducible refine gate_dst (N := 4) rfl ?_); refine bx 4 #[.int .u64 a1_0, .int .u64 a1_1, .int .u64 a1_2] 29 ?_; intro gc hg w_gc hbox hb; have n_gp := bb BKgp hb; have e_gp := nl BKgp hg; have n0_ := bs HB hb; have GEgc := sz HB hg; clear HB BKgp; have HB := n0_; have BKgp := n_gp; have NEgp_gc := e_gp; clear n_gp e_gp; have BKgc := Aside0.mk hbox; clear n0_ hb hbox hg) | ((with_reducible refine gate_dst (N := 5) rfl ?_); refine bx 5 #[.int .u64 a2_0, .int .u64 a2_1, .int .u64 a2_2] 29 ?_; intro gv hg w_gv hbox hb; have n_gp := bb BKgp hb; have e_gp := nl BKgp hg; have n_gc := bb BKgc hb; have e_gc := nl BKgc hg; have n0_ := bs HB hb; have GEgv := sz HB hg; clear HB BKgp BKgc; have HB := n0_; have BKgp := n_gp; have NEgp_gv := e_gp; clear n_gp e_gp; have BKgc := n_gc; have NEgc_gv := e_gc; clear n_gc e_gc; have BKgv := Aside0.mk hbox; clear n0_ hb hbox hg; have cgp_0 : w_gv.cell? ⟨gp, 0, none⟩ = some (.int .i64 2) := (blk_cell BKgp.out 0).trans rfl; have cgp_1 : w_gv.cell? ⟨gp, 1, none⟩ = some (.int .u64 a0_1) := (blk_cell BKgp.out 1).trans rfl; have cgp_2 : w_gv.cell? ⟨gp, 2, none⟩ = some (.int .u64 a0_2) := (blk_cell BKgp.out 2).trans rfl; have cgp_3 : w_gv.cell? ⟨gp, 3, none⟩ = some (.int .u64 a0_3) := (blk_cell BKgp.out 3).trans rfl; have cgp_4 : w_gv.cell? ⟨gp, 4, none⟩ = some (.int .u64 a0_4) := (blk_cell BKgp.out 4).trans rfl) | (go_at_call 47; refine (policy_of.grid _ _ _ _ true _ H.out).mono ?_; rintro e w2 ⟨rfl, hb⟩; have n_gp := bb BKgp hb; have n_gc := bb BKgc hb; have n_gv := bb BKgv hb; have n0_ := bs HB hb; clear HB BKgp BKgc BKgv; have HB := n0_; clear n0_; have BKgp := n_gp; clear n_gp; have BKgc := n_gc; clear n_gc; have BKgv := n_gv; clear n_gv; clear hb))
  have GEgb : Aside0 (w.heap.size ≤ w2.heap.size) := ⟨HB.out.size⟩
  have NEgp_gb : Aside0 (gp ≠ w2.heap.size) := ⟨Nat.ne_of_lt (blk_lt BKgp.out)⟩
  have NEgc_gb : Aside0 (gc ≠ w2.heap.size) := ⟨Nat.ne_of_lt (blk_lt BKgc.out)⟩
  have NEgv_gb : Aside0 (gv ≠ w2.heap.size) := ⟨Nat.ne_of_lt (blk_lt BKgv.out)⟩
  have n_gp := Aside0.mk (blk_alloc BKgp.out (.cells #[.func (.func 85) #[] #[], .func (.func 86) #[] #[], .func (.func 87) #[] #[], .func (.func 88) #[] #[], .func (.func 89) #[] #[], .func (.func 90) #[] #[]] 82))
  have n_gc := Aside0.mk (blk_alloc BKgc.out (.cells #[.func (.func 85) #[] #[], .func (.func 86) #[] #[], .func (.func 87) #[] #[], .func (.func 88) #[] #[], .func (.func 89) #[] #[], .func (.func 90) #[] #[]] 82))
  have n_gv := Aside0.mk (blk_alloc BKgv.out (.cells #[.func (.func 85) #[] #[], .func (.func 86) #[] #[], .func (.func 87) #[] #[], .func (.func 88) #[] #[], .func (.func 89) #[] #[], .func (.func 90) #[] #[]] 82))
  have BKgb : Aside0 ((w2.alloc (.cells #[.func (.func 85) #[] #[], .func (.func 86) #[] #[], .func (.func 87) #[] #[], .func (.func 88) #[] #[], .func (.func 89) #[] #[], .func (.func 90) #[] #[]] 82)).heap[w2.heap.size]? = _) := ⟨blk_new _ _⟩
  have n0_ := Aside0.mk (below_alloc HB.out (.cells #[.func (.func 85) #[] #[], .func (.func 86) #[] #[], .func (.func 87) #[] #[], .func (.func 88) #[] #[], .func (.func 89) #[] #[], .func (.func 90) #[] #[]] 82))
  clear HB BKgp BKgc BKgv
  have HB := n0_
  clear n0_
  have BKgp := n_gp
  have BKgc := n_gc
  have BKgv := n_gv
  clear n_gp n_gc n_gv
  generalize (w2.alloc (.cells #[.func (.func 85) #[] #[], .func (.func 86) #[] #[], .func (.func 87) #[] #[], .func (.func 88) #[] #[], .func (.func 89) #[] #[], .func (.func 90) #[] #[]] 82)) = w3 at *
  generalize w2.heap.size = gb at *
  have cgb_5 : w3.cell? ⟨gb, 5, none⟩ = some (.func (.func 90) #[] #[]) := (blk_cell BKgb.out 5).trans rfl
  have cgc_0 : w3.cell? ⟨gc, 0, none⟩ = some (.int .u64 a1_0) := (blk_cell BKgc.out 0).trans rfl
  have cgc_1 : w3.cell? ⟨gc, 1, none⟩ = some (.int .u64 a1_1) := (blk_cell BKgc.out 1).trans rfl
  have cgc_2 : w3.cell? ⟨gc, 2, none⟩ = some (.int .u64 a1_2) := (blk_cell BKgc.out 2).trans rfl
  have fgc_0 : w3.frozen? ⟨gc, 0, none⟩ = false := blk_frozen BKgc.out 0
  have fgc_1 : w3.frozen? ⟨gc, 1, none⟩ = false := blk_frozen BKgc.out 1
  have fgc_2 : w3.frozen? ⟨gc, 2, none⟩ = false := blk_frozen BKgc.out 2
  have cgv_0 : w3.cell? ⟨gv, 0, none⟩ = some (.int .u64 a2_0) := (blk_cell BKgv.out 0).trans rfl
  have cgv_1 : w3.cell? ⟨gv, 1, none⟩ = some (.int .u64 a2_1) := (blk_cell BKgv.out 1).trans rfl
  have cgv_2 : w3.cell? ⟨gv, 2, none⟩ = some (.int .u64 a2_2) := (blk_cell BKgv.out 2).trans rfl
  have fgv_0 : w3.frozen? ⟨gv, 0, none⟩ = false := blk_frozen BKgv.out 0
  have fgv_1 : w3.frozen? ⟨gv, 1, none⟩ = false := blk_frozen BKgv.out 1
  have fgv_2 : w3.frozen? ⟨gv, 2, none⟩ = false := blk_frozen BKgv.out 2
  go_wp2_with (first | (go_at_call 90; refine ((policy_rules_12.calls a1_0 a1_1 a1_2 a2_0 a2_1 a2_2 r _ HX1.out)).mono ?_; rintro e w4 ⟨rfl, hb⟩; have n_gp := bb BKgp hb; have n_gc := bb BKgc hb; have n_gv := bb BKgv hb; have n_gb := bb BKgb hb; have n0_ := bs HB hb; clear HB BKgp BKgc BKgv BKgb; have HB := n0_; clear n0_; have BKgp := n_gp; clear n_gp; have BKgc := n_gc; clear n_gc; have BKgv := n_gv; clear n_gv; have BKgb := n_gb; clear n_gb; clear hb))
  go_ret
  exact ⟨rfl, HB.out⟩
set_option maxHeartbeats 1600000 in
set_option maxRecDepth 100000 in
theorem policy_Covers.grid_no (a0_1 a0_2 a0_3 a0_4 : Int) (a1_0 a1_1 a1_2 a2_0 a2_1 a2_2 : Int) (w : World) (h : policy_rules_7.f 2 a0_1 a0_2 a0_3 a0_4 = some false) :
    Calls Try.prog 27 #[.agg #[.int .i64 2, .int .u64 a0_1, .int .u64 a0_2, .int .u64 a0_3, .int .u64 a0_4], .agg #[.int .u64 a1_0, .int .u64 a1_1, .int .u64 a1_2], .agg #[.int .u64 a2_0, .int .u64 a2_1, .int .u64 a2_2]] w fun e w' => e = .returned (.bool false) ∧ Below w.heap.size w w' := by
  have HB := Aside0.mk (Below.refl w.heap.size w)
  have H := Aside0.mk h
  clear h
  have hu29 := Try.underlying29
  go_enter Try.func27, Try.ntmps27
  go_upto_region 2 with (first | ((with_reducible refine gate_dst (N := 3) rfl ?_); refine bx 3 #[.int .i64 2, .int .u64 a0_1, .int .u64 a0_2, .int .u64 a0_3, .int .u64 a0_4] 27 ?_; intro gp hg w_gp hbox hb; have n0_ := bs HB hb; have GEgp := sz HB hg; clear HB ; have HB := n0_; have BKgp := Aside0.mk hbox; clear n0_ hb hbox hg) | ((with_reducible refine gate_dst (N := 4) rfl ?_); refine bx 4 #[.int .u64 a1_0, .int .u64 a1_1, .int .u64 a1_2] 29 ?_; intro gc hg w_gc hbox hb; have n_gp := bb BKgp hb; have e_gp := nl BKgp hg; have n0_ := bs HB hb; have GEgc := sz HB hg; clear HB BKgp; have HB := n0_; have BKgp := n_gp; have NEgp_gc := e_gp; clear n_gp e_gp; have BKgc := Aside0.mk hbox; clear n0_ hb hbox hg) | ((with_reducible refine gate_dst (N := 5) rfl ?_); refine bx 5 #[.int .u64 a2_0, .int .u64 a2_1, .int .u64 a2_2] 29 ?_; intro gv hg w_gv hbox hb; have n_gp := bb BKgp hb; have e_gp := nl BKgp hg; have n_gc := bb BKgc hb; have e_gc := nl BKgc hg; have n0_ := bs HB hb; have GEgv := sz HB hg; clear HB BKgp BKgc; have HB := n0_; have BKgp := n_gp; have NEgp_gv := e_gp; clear n_gp e_gp; have BKgc := n_gc; have NEgc_gv := e_gc; clear n_gc e_gc; have BKgv := Aside0.mk hbox; clear n0_ hb hbox hg; have cgp_0 : w_gv.cell? ⟨gp, 0, none⟩ = some (.int .i64 2) := (blk_cell BKgp.out 0).trans rfl; have cgp_1 : w_gv.cell? ⟨gp, 1, none⟩ = some (.int .u64 a0_1) := (blk_cell BKgp.out 1).trans rfl; have cgp_2 : w_gv.cell? ⟨gp, 2, none⟩ = some (.int .u64 a0_2) := (blk_cell BKgp.out 2).trans rfl; have cgp_3 : w_gv.cell? ⟨gp, 3, none⟩ = some (.int .u64 a0_3) := (blk_cell BKgp.out 3).trans rfl; have cgp_4 : w_gv.cell? ⟨gp, 4, none⟩ = some (.int .u64 a0_4) := (blk_cell BKgp.out 4).trans rfl) | (go_at_call 47; refine (policy_of.grid _ _ _ _ false _ H.out).mono ?_; rintro e w2 ⟨rfl, hb⟩; have n_gp := bb BKgp hb; have n_gc := bb BKgc hb; have n_gv := bb BKgv hb; have n0_ := bs HB hb; clear HB BKgp BKgc BKgv; have HB := n0_; clear n0_; have BKgp := n_gp; clear n_gp; have BKgc := n_gc; clear n_gc; have BKgv := n_gv; clear n_gv; clear hb))
  have GEgb : Aside0 (w.heap.size ≤ w2.heap.size) := ⟨HB.out.size⟩
  have NEgp_gb : Aside0 (gp ≠ w2.heap.size) := ⟨Nat.ne_of_lt (blk_lt BKgp.out)⟩
  have NEgc_gb : Aside0 (gc ≠ w2.heap.size) := ⟨Nat.ne_of_lt (blk_lt BKgc.out)⟩
  have NEgv_gb : Aside0 (gv ≠ w2.heap.size) := ⟨Nat.ne_of_lt (blk_lt BKgv.out)⟩
  have n_gp := Aside0.mk (blk_alloc BKgp.out (.cells #[.func (.func 85) #[] #[], .func (.func 86) #[] #[], .func (.func 87) #[] #[], .func (.func 88) #[] #[], .func (.func 89) #[] #[], .func (.func 90) #[] #[]] 82))
  have n_gc := Aside0.mk (blk_alloc BKgc.out (.cells #[.func (.func 85) #[] #[], .func (.func 86) #[] #[], .func (.func 87) #[] #[], .func (.func 88) #[] #[], .func (.func 89) #[] #[], .func (.func 90) #[] #[]] 82))
  have n_gv := Aside0.mk (blk_alloc BKgv.out (.cells #[.func (.func 85) #[] #[], .func (.func 86) #[] #[], .func (.func 87) #[] #[], .func (.func 88) #[] #[], .func (.func 89) #[] #[], .func (.func 90) #[] #[]] 82))
  have BKgb : Aside0 ((w2.alloc (.cells #[.func (.func 85) #[] #[], .func (.func 86) #[] #[], .func (.func 87) #[] #[], .func (.func 88) #[] #[], .func (.func 89) #[] #[], .func (.func 90) #[] #[]] 82)).heap[w2.heap.size]? = _) := ⟨blk_new _ _⟩
  have n0_ := Aside0.mk (below_alloc HB.out (.cells #[.func (.func 85) #[] #[], .func (.func 86) #[] #[], .func (.func 87) #[] #[], .func (.func 88) #[] #[], .func (.func 89) #[] #[], .func (.func 90) #[] #[]] 82))
  clear HB BKgp BKgc BKgv
  have HB := n0_
  clear n0_
  have BKgp := n_gp
  have BKgc := n_gc
  have BKgv := n_gv
  clear n_gp n_gc n_gv
  generalize (w2.alloc (.cells #[.func (.func 85) #[] #[], .func (.func 86) #[] #[], .func (.func 87) #[] #[], .func (.func 88) #[] #[], .func (.func 89) #[] #[], .func (.func 90) #[] #[]] 82)) = w3 at *
  generalize w2.heap.size = gb at *
  go_wp2_with (fail)
  go_ret
  exact ⟨rfl, HB.out⟩
set_option maxHeartbeats 1600000 in
set_option maxRecDepth 100000 in
theorem policy_Covers.other (a0_0 a0_1 a0_2 a0_3 a0_4 : Int) (a1_0 a1_1 a1_2 a2_0 a2_1 a2_2 : Int) (w : World) (hn1 : a0_0 ≠ 1) (hn2 : a0_0 ≠ 2) :
    Calls Try.prog 27 #[.agg #[.int .i64 a0_0, .int .u64 a0_1, .int .u64 a0_2, .int .u64 a0_3, .int .u64 a0_4], .agg #[.int .u64 a1_0, .int .u64 a1_1, .int .u64 a1_2], .agg #[.int .u64 a2_0, .int .u64 a2_1, .int .u64 a2_2]] w fun e w' => e = .returned (.bool false) ∧ Below w.heap.size w w' := by
  have HB := Aside0.mk (Below.refl w.heap.size w)
  have H1 := Aside0.mk hn1
  have H2 := Aside0.mk hn2
  clear hn1 hn2
  have hu29 := Try.underlying29
  go_enter Try.func27, Try.ntmps27
  go_upto_region 2 with (first | ((with_reducible refine gate_dst (N := 3) rfl ?_); refine bx 3 #[.int .i64 a0_0, .int .u64 a0_1, .int .u64 a0_2, .int .u64 a0_3, .int .u64 a0_4] 27 ?_; intro gp hg w_gp hbox hb; have n0_ := bs HB hb; have GEgp := sz HB hg; clear HB ; have HB := n0_; have BKgp := Aside0.mk hbox; clear n0_ hb hbox hg) | ((with_reducible refine gate_dst (N := 4) rfl ?_); refine bx 4 #[.int .u64 a1_0, .int .u64 a1_1, .int .u64 a1_2] 29 ?_; intro gc hg w_gc hbox hb; have n_gp := bb BKgp hb; have e_gp := nl BKgp hg; have n0_ := bs HB hb; have GEgc := sz HB hg; clear HB BKgp; have HB := n0_; have BKgp := n_gp; have NEgp_gc := e_gp; clear n_gp e_gp; have BKgc := Aside0.mk hbox; clear n0_ hb hbox hg) | ((with_reducible refine gate_dst (N := 5) rfl ?_); refine bx 5 #[.int .u64 a2_0, .int .u64 a2_1, .int .u64 a2_2] 29 ?_; intro gv hg w_gv hbox hb; have n_gp := bb BKgp hb; have e_gp := nl BKgp hg; have n_gc := bb BKgc hb; have e_gc := nl BKgc hg; have n0_ := bs HB hb; have GEgv := sz HB hg; clear HB BKgp BKgc; have HB := n0_; have BKgp := n_gp; have NEgp_gv := e_gp; clear n_gp e_gp; have BKgc := n_gc; have NEgc_gv := e_gc; clear n_gc e_gc; have BKgv := Aside0.mk hbox; clear n0_ hb hbox hg; have cgp_0 : w_gv.cell? ⟨gp, 0, none⟩ = some (.int .i64 a0_0) := (blk_cell BKgp.out 0).trans rfl; have cgp_1 : w_gv.cell? ⟨gp, 1, none⟩ = some (.int .u64 a0_1) := (blk_cell BKgp.out 1).trans rfl; have cgp_2 : w_gv.cell? ⟨gp, 2, none⟩ = some (.int .u64 a0_2) := (blk_cell BKgp.out 2).trans rfl; have cgp_3 : w_gv.cell? ⟨gp, 3, none⟩ = some (.int .u64 a0_3) := (blk_cell BKgp.out 3).trans rfl; have cgp_4 : w_gv.cell? ⟨gp, 4, none⟩ = some (.int .u64 a0_4) := (blk_cell BKgp.out 4).trans rfl) | (go_at_call 47; refine (policy_of.other _ _ _ _ _ _ H1.out H2.out).mono ?_; rintro e w2 ⟨rfl, hb⟩; have n_gp := bb BKgp hb; have n_gc := bb BKgc hb; have n_gv := bb BKgv hb; have n0_ := bs HB hb; clear HB BKgp BKgc BKgv; have HB := n0_; clear n0_; have BKgp := n_gp; clear n_gp; have BKgc := n_gc; clear n_gc; have BKgv := n_gv; clear n_gv; clear hb))
  have GEgb : Aside0 (w.heap.size ≤ w2.heap.size) := ⟨HB.out.size⟩
  have NEgp_gb : Aside0 (gp ≠ w2.heap.size) := ⟨Nat.ne_of_lt (blk_lt BKgp.out)⟩
  have NEgc_gb : Aside0 (gc ≠ w2.heap.size) := ⟨Nat.ne_of_lt (blk_lt BKgc.out)⟩
  have NEgv_gb : Aside0 (gv ≠ w2.heap.size) := ⟨Nat.ne_of_lt (blk_lt BKgv.out)⟩
  have n_gp := Aside0.mk (blk_alloc BKgp.out (.cells #[.nilFunc, .nilFunc, .nilFunc, .nilFunc, .nilFunc, .nilFunc] 82))
  have n_gc := Aside0.mk (blk_alloc BKgc.out (.cells #[.nilFunc, .nilFunc, .nilFunc, .nilFunc, .nilFunc, .nilFunc] 82))
  have n_gv := Aside0.mk (blk_alloc BKgv.out (.cells #[.nilFunc, .nilFunc, .nilFunc, .nilFunc, .nilFunc, .nilFunc] 82))
  have BKgb : Aside0 ((w2.alloc (.cells #[.nilFunc, .nilFunc, .nilFunc, .nilFunc, .nilFunc, .nilFunc] 82)).heap[w2.heap.size]? = _) := ⟨blk_new _ _⟩
  have n0_ := Aside0.mk (below_alloc HB.out (.cells #[.nilFunc, .nilFunc, .nilFunc, .nilFunc, .nilFunc, .nilFunc] 82))
  clear HB BKgp BKgc BKgv
  have HB := n0_
  clear n0_
  have BKgp := n_gp
  have BKgc := n_gc
  have BKgv := n_gv
  clear n_gp n_gc n_gv
  generalize (w2.alloc (.cells #[.nilFunc, .nilFunc, .nilFunc, .nilFunc, .nilFunc, .nilFunc] 82)) = w3 at *
  generalize w2.heap.size = gb at *
  go_wp2_with (fail)
  go_ret
  exact ⟨rfl, HB.out⟩
theorem policy_Covers.calls (a0_0 : Int) (a0_1 : Int) (a0_2 : Int) (a0_3 : Int) (a0_4 : Int) (a1_0 : Int) (a1_1 : Int) (a1_2 : Int) (a2_0 : Int) (a2_1 : Int) (a2_2 : Int) (r : Bool) (w : World) (h : policy_Covers.f a0_0 a0_1 a0_2 a0_3 a0_4 a1_0 a1_1 a1_2 a2_0 a2_1 a2_2 = some r) :
    Calls Try.prog 27 #[.agg #[.int .i64 a0_0, .int .u64 a0_1, .int .u64 a0_2, .int .u64 a0_3, .int .u64 a0_4], .agg #[.int .u64 a1_0, .int .u64 a1_1, .int .u64 a1_2], .agg #[.int .u64 a2_0, .int .u64 a2_1, .int .u64 a2_2]] w fun e w' => e = .returned (.bool r) ∧ Below w.heap.size w w' := by
  unfold policy_Covers.f at h
  obtain ⟨t, ht, h⟩ := Option.bind_eq_some_iff.mp h
  rcases policy_of.parts ht with ⟨rfl, hv⟩ | ⟨rfl, hv⟩ | ⟨c1, c2, rfl⟩
  · cases t with
    | true =>
      rw [if_pos rfl, if_pos rfl] at h
      exact policy_Covers.flow a0_1 a0_2 a0_3 a0_4 a1_0 a1_1 a1_2 a2_0 a2_1 a2_2 r w hv h
    | false =>
      rw [if_neg (by decide)] at h
      obtain rfl := Option.some.inj h
      exact policy_Covers.flow_no a0_1 a0_2 a0_3 a0_4 a1_0 a1_1 a1_2 a2_0 a2_1 a2_2 w hv
  · cases t with
    | true =>
      rw [if_pos rfl, if_neg (by decide)] at h
      exact policy_Covers.grid a0_1 a0_2 a0_3 a0_4 a1_0 a1_1 a1_2 a2_0 a2_1 a2_2 r w hv h
    | false =>
      rw [if_neg (by decide)] at h
      obtain rfl := Option.some.inj h
      exact policy_Covers.grid_no a0_1 a0_2 a0_3 a0_4 a1_0 a1_1 a1_2 a2_0 a2_1 a2_2 w hv
  · rw [if_neg (by decide)] at h
    obtain rfl := Option.some.inj h
    exact policy_Covers.other a0_0 a0_1 a0_2 a0_3 a0_4 a1_0 a1_1 a1_2 a2_0 a2_1 a2_2 w c1 c2

/-! ### turnstilelaw06_flow: function 39 -/
def turnstilelaw06_flow.f  : Option (Int × Int × Int × Int × Int) := some (1, 10, 20, 0, 0)
set_option maxHeartbeats 8000000 in
set_option maxRecDepth 100000 in
theorem turnstilelaw06_flow.calls  (r1 : Int) (r2 : Int) (r3 : Int) (r4 : Int) (r5 : Int) (w : World) (h : turnstilelaw06_flow.f  = some (r1, r2, r3, r4, r5)) :
    Calls Try.prog 39 #[] w fun e w' => e = .returned (.agg #[.int .i64 r1, .int .u64 r2, .int .u64 r3, .int .u64 r4, .int .u64 r5]) ∧ Below w.heap.size w w' := by
  have hu27 := Try.underlying27
  have HB := Aside0.mk (Below.refl w.heap.size w)
  have H : (some (1, 10, 20, 0, 0)) = some (r1, r2, r3, r4, r5) := h
  clear h
  simp only [Option.some.injEq, Prod.mk.injEq] at H
  obtain ⟨rfl, rfl, rfl, rfl, rfl⟩ := H
  go_enter Try.func39, Try.ntmps39
  go_wp2_with (first | ((with_reducible refine gate_dst (N := 0) rfl ?_); refine bx 0 #[.int .i64 0, .int .u64 0, .int .u64 0, .int .u64 0, .int .u64 0] 27 ?_; intro gb216 hg w1 hbox hb; have n0_ := bs HB hb; have n1_ := Aside0.mk (hbox); have n2_ := sz HB hg; have n3_ := sz HB hg; clear HB; have HB := n0_; have BK216 := n1_; have GW216 := n2_; have GE216 := n3_; clear n0_ n1_ n2_ n3_; clear hb hbox hg; obtain ⟨hcz2_0, hcz2_1, hcz2_2, hcz2_3, hcz2_4, hfz2_0, hfz2_1, hfz2_2, hfz2_3, hfz2_4⟩ := bc5 BK216))
  refine bodyPost_ret (results_cell_row rfl _ _ gb216 27 #[.int .i64 1, .int .u64 10, .int .u64 20, .int .u64 0, .int .u64 0] (0, 0) _ rfl (bk BK216) Try.underlying27 rfl (by kernel_rfl)) rfl ?_
  exact ⟨re, bw HB⟩

/-! ### turnstilelaw06_grid: function 40 -/
def turnstilelaw06_grid.f  : Option (Int × Int × Int × Int × Int) := some (2, 0, 0, 3, 100)
set_option maxHeartbeats 8000000 in
set_option maxRecDepth 100000 in
theorem turnstilelaw06_grid.calls  (r1 : Int) (r2 : Int) (r3 : Int) (r4 : Int) (r5 : Int) (w : World) (h : turnstilelaw06_grid.f  = some (r1, r2, r3, r4, r5)) :
    Calls Try.prog 40 #[] w fun e w' => e = .returned (.agg #[.int .i64 r1, .int .u64 r2, .int .u64 r3, .int .u64 r4, .int .u64 r5]) ∧ Below w.heap.size w w' := by
  have hu27 := Try.underlying27
  have HB := Aside0.mk (Below.refl w.heap.size w)
  have H : (some (2, 0, 0, 3, 100)) = some (r1, r2, r3, r4, r5) := h
  clear h
  simp only [Option.some.injEq, Prod.mk.injEq] at H
  obtain ⟨rfl, rfl, rfl, rfl, rfl⟩ := H
  go_enter Try.func40, Try.ntmps40
  go_wp2_with (first | ((with_reducible refine gate_dst (N := 0) rfl ?_); refine bx 0 #[.int .i64 0, .int .u64 0, .int .u64 0, .int .u64 0, .int .u64 0] 27 ?_; intro gb217 hg w1 hbox hb; have n0_ := bs HB hb; have n1_ := Aside0.mk (hbox); have n2_ := sz HB hg; have n3_ := sz HB hg; clear HB; have HB := n0_; have BK217 := n1_; have GW217 := n2_; have GE217 := n3_; clear n0_ n1_ n2_ n3_; clear hb hbox hg; obtain ⟨hcz2_0, hcz2_1, hcz2_2, hcz2_3, hcz2_4, hfz2_0, hfz2_1, hfz2_2, hfz2_3, hfz2_4⟩ := bc5 BK217))
  refine bodyPost_ret (results_cell_row rfl _ _ gb217 27 #[.int .i64 2, .int .u64 0, .int .u64 0, .int .u64 3, .int .u64 100] (0, 0) _ rfl (bk BK217) Try.underlying27 rfl (by kernel_rfl)) rfl ?_
  exact ⟨re, bw HB⟩

end Go.Proofs.Ytokfhdpokemekaa.Q
