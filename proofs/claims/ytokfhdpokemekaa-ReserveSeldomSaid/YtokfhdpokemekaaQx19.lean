/- Written by the session's own program hyb.py: what functions of the program compute; Lean checks it. -/
import Derived.Test.YtokfhdpokemekaaQx0
import Derived.Test.YtokfhdpokemekaaQx4
import Derived.Test.YtokfhdpokemekaaQx13
import Derived.Test.YtokfhdpokemekaaQx14
import Derived.Test.YtokfhdpokemekaaQx15
import Derived.Test.YtokfhdpokemekaaWMaps
namespace Go.Proofs.Ytokfhdpokemekaa.Q
open Go.RowKit Go.Proofs.YtokfhdpokemekaaW.PrintWords Go.Proofs.YtokfhdpokemekaaW.PrintLast Go.Proofs.YtokfhdpokemekaaW.PrintMore Go.Proofs.YtokfhdpokemekaaW.PrintShort
attribute [local go_sem] run_Add64 run_Sub64
attribute [local go_sem] max2_int min2_int max_two min_two max_three min_three max_four min_four   -- for this text's walks alone
set_option linter.unusedVariables false
set_option linter.unusedSimpArgs false

/-! ### policy_Max: function 26 -/
-- NEEDS WMaps
def policy_Max.f (a0_0 : Int) (a0_1 : Int) (a0_2 : Int) (a0_3 : Int) (a0_4 : Int) (a1_0 : Int) (a1_1 : Int) (a1_2 : Int) (a2_0 : Int) (a2_1 : Int) (a2_2 : Int) : Option (Int × Int × Int) := (policy_of.ok a0_0 a0_1 a0_2 a0_3 a0_4).bind fun t => (if t = true then (if a0_0 = 1 then ((policy_rules_6.f a1_0 a1_1 a1_2 a2_0 a2_1 a2_2).bind fun u => (if u = true then (policy_rules_2.f a1_0 a1_1 a1_2) else (policy_rules_2.f a2_0 a2_1 a2_2))) else ((policy_rules_12.f a1_0 a1_1 a1_2 a2_0 a2_1 a2_2).bind fun u => (if u = true then (policy_rules_8.f a1_0 a1_1 a1_2) else (policy_rules_8.f a2_0 a2_1 a2_2)))) else (some (0, 0, 0)))
set_option maxHeartbeats 1600000 in
set_option maxRecDepth 100000 in
theorem policy_Max.flow_a (a0_1 a0_2 a0_3 a0_4 : Int) (a1_0 a1_1 a1_2 a2_0 a2_1 a2_2 : Int) (q1 q2 q3 : Int) (w : World) (h : policy_rules_1.f 1 a0_1 a0_2 a0_3 a0_4 = some true) (h1 : policy_rules_6.f a1_0 a1_1 a1_2 a2_0 a2_1 a2_2 = some true) (h2 : policy_rules_2.f a1_0 a1_1 a1_2 = some (q1, q2, q3)) :
    Calls Try.prog 26 #[.agg #[.int .i64 1, .int .u64 a0_1, .int .u64 a0_2, .int .u64 a0_3, .int .u64 a0_4], .agg #[.int .u64 a1_0, .int .u64 a1_1, .int .u64 a1_2], .agg #[.int .u64 a2_0, .int .u64 a2_1, .int .u64 a2_2]] w fun e w' => e = .returned (.agg #[.int .u64 q1, .int .u64 q2, .int .u64 q3]) ∧ Below w.heap.size w w' := by
  have HB := Aside0.mk (Below.refl w.heap.size w)
  have H := Aside0.mk h
  clear h
  have HX1 := Aside0.mk h1
  clear h1
  have HX2 := Aside0.mk h2
  clear h2
  have hu29 := Try.underlying29
  go_enter Try.func26, Try.ntmps26
  go_upto_region 2 with (first | ((with_reducible refine gate_dst (N := 3) rfl ?_); refine bx 3 #[.int .i64 1, .int .u64 a0_1, .int .u64 a0_2, .int .u64 a0_3, .int .u64 a0_4] 27 ?_; intro gp hg w_gp hbox hb; have n0_ := bs HB hb; have GEgp := sz HB hg; clear HB ; have HB := n0_; have BKgp := Aside0.mk hbox; clear n0_ hb hbox hg) | ((with_reducible refine gate_dst (N := 4) rfl ?_); refine bx 4 #[.int .u64 a1_0, .int .u64 a1_1, .int .u64 a1_2] 29 ?_; intro gx hg w_gx hbox hb; have n_gp := bb BKgp hb; have e_gp := nl BKgp hg; have n0_ := bs HB hb; have GEgx := sz HB hg; clear HB BKgp; have HB := n0_; have BKgp := n_gp; have NEgp_gx := e_gp; clear n_gp e_gp; have BKgx := Aside0.mk hbox; clear n0_ hb hbox hg) | ((with_reducible refine gate_dst (N := 5) rfl ?_); refine bx 5 #[.int .u64 a2_0, .int .u64 a2_1, .int .u64 a2_2] 29 ?_; intro gy hg w_gy hbox hb; have n_gp := bb BKgp hb; have e_gp := nl BKgp hg; have n_gx := bb BKgx hb; have e_gx := nl BKgx hg; have n0_ := bs HB hb; have GEgy := sz HB hg; clear HB BKgp BKgx; have HB := n0_; have BKgp := n_gp; have NEgp_gy := e_gp; clear n_gp e_gp; have BKgx := n_gx; have NEgx_gy := e_gx; clear n_gx e_gx; have BKgy := Aside0.mk hbox; clear n0_ hb hbox hg) | ((with_reducible refine gate_dst (N := 6) rfl ?_); refine bx 6 #[.int .u64 0, .int .u64 0, .int .u64 0] 29 ?_; intro gr hg w_gr hbox hb; have n_gp := bb BKgp hb; have e_gp := nl BKgp hg; have n_gx := bb BKgx hb; have e_gx := nl BKgx hg; have n_gy := bb BKgy hb; have e_gy := nl BKgy hg; have n0_ := bs HB hb; have GEgr := sz HB hg; clear HB BKgp BKgx BKgy; have HB := n0_; have BKgp := n_gp; have NEgp_gr := e_gp; clear n_gp e_gp; have BKgx := n_gx; have NEgx_gr := e_gx; clear n_gx e_gx; have BKgy := n_gy; have NEgy_gr := e_gy; clear n_gy e_gy; have BKgr := Aside0.mk hbox; clear n0_ hb hbox hg; have cgp_0 : w_gr.cell? ⟨gp, 0, none⟩ = some (.int .i64 1) := (blk_cell BKgp.out 0).trans rfl; have cgp_1 : w_gr.cell? ⟨gp, 1, none⟩ = some (.int .u64 a0_1) := (blk_cell BKgp.out 1).trans rfl; have cgp_2 : w_gr.cell? ⟨gp, 2, none⟩ = some (.int .u64 a0_2) := (blk_cell BKgp.out 2).trans rfl; have cgp_3 : w_gr.cell? ⟨gp, 3, none⟩ = some (.int .u64 a0_3) := (blk_cell BKgp.out 3).trans rfl; have cgp_4 : w_gr.cell? ⟨gp, 4, none⟩ = some (.int .u64 a0_4) := (blk_cell BKgp.out 4).trans rfl) | (go_at_call 47; refine (policy_of.flow _ _ _ _ true _ H.out).mono ?_; rintro e w2 ⟨rfl, hb⟩; have n_gp := bb BKgp hb; have n_gx := bb BKgx hb; have n_gy := bb BKgy hb; have n_gr := bb BKgr hb; have n0_ := bs HB hb; clear HB BKgp BKgx BKgy BKgr; have HB := n0_; clear n0_; have BKgp := n_gp; clear n_gp; have BKgx := n_gx; clear n_gx; have BKgy := n_gy; clear n_gy; have BKgr := n_gr; clear n_gr; clear hb))
  have GEgb : Aside0 (w.heap.size ≤ w2.heap.size) := ⟨HB.out.size⟩
  have NEgp_gb : Aside0 (gp ≠ w2.heap.size) := ⟨Nat.ne_of_lt (blk_lt BKgp.out)⟩
  have NEgx_gb : Aside0 (gx ≠ w2.heap.size) := ⟨Nat.ne_of_lt (blk_lt BKgx.out)⟩
  have NEgy_gb : Aside0 (gy ≠ w2.heap.size) := ⟨Nat.ne_of_lt (blk_lt BKgy.out)⟩
  have NEgr_gb : Aside0 (gr ≠ w2.heap.size) := ⟨Nat.ne_of_lt (blk_lt BKgr.out)⟩
  have n_gp := Aside0.mk (blk_alloc BKgp.out (.cells #[.func (.func 79) #[] #[], .func (.func 80) #[] #[], .func (.func 81) #[] #[], .func (.func 82) #[] #[], .func (.func 83) #[] #[], .func (.func 84) #[] #[]] 82))
  have n_gx := Aside0.mk (blk_alloc BKgx.out (.cells #[.func (.func 79) #[] #[], .func (.func 80) #[] #[], .func (.func 81) #[] #[], .func (.func 82) #[] #[], .func (.func 83) #[] #[], .func (.func 84) #[] #[]] 82))
  have n_gy := Aside0.mk (blk_alloc BKgy.out (.cells #[.func (.func 79) #[] #[], .func (.func 80) #[] #[], .func (.func 81) #[] #[], .func (.func 82) #[] #[], .func (.func 83) #[] #[], .func (.func 84) #[] #[]] 82))
  have n_gr := Aside0.mk (blk_alloc BKgr.out (.cells #[.func (.func 79) #[] #[], .func (.func 80) #[] #[], .func (.func 81) #[] #[], .func (.func 82) #[] #[], .func (.func 83) #[] #[], .func (.func 84) #[] #[]] 82))
  have BKgb : Aside0 ((w2.alloc (.cells #[.func (.func 79) #[] #[], .func (.func 80) #[] #[], .func (.func 81) #[] #[], .func (.func 82) #[] #[], .func (.func 83) #[] #[], .func (.func 84) #[] #[]] 82)).heap[w2.heap.size]? = _) := ⟨blk_new _ _⟩
  have n0_ := Aside0.mk (below_alloc HB.out (.cells #[.func (.func 79) #[] #[], .func (.func 80) #[] #[], .func (.func 81) #[] #[], .func (.func 82) #[] #[], .func (.func 83) #[] #[], .func (.func 84) #[] #[]] 82))
  clear HB BKgp BKgx BKgy BKgr
  have HB := n0_
  clear n0_
  have BKgp := n_gp
  have BKgx := n_gx
  have BKgy := n_gy
  have BKgr := n_gr
  clear n_gp n_gx n_gy n_gr
  generalize (w2.alloc (.cells #[.func (.func 79) #[] #[], .func (.func 80) #[] #[], .func (.func 81) #[] #[], .func (.func 82) #[] #[], .func (.func 83) #[] #[], .func (.func 84) #[] #[]] 82)) = w3 at *
  generalize w2.heap.size = gb at *
  have cgb_5 : w3.cell? ⟨gb, 5, none⟩ = some (.func (.func 84) #[] #[]) := (blk_cell BKgb.out 5).trans rfl
  have cgb_1 : w3.cell? ⟨gb, 1, none⟩ = some (.func (.func 80) #[] #[]) := (blk_cell BKgb.out 1).trans rfl
  have cgx_0 : w3.cell? ⟨gx, 0, none⟩ = some (.int .u64 a1_0) := (blk_cell BKgx.out 0).trans rfl
  have cgx_1 : w3.cell? ⟨gx, 1, none⟩ = some (.int .u64 a1_1) := (blk_cell BKgx.out 1).trans rfl
  have cgx_2 : w3.cell? ⟨gx, 2, none⟩ = some (.int .u64 a1_2) := (blk_cell BKgx.out 2).trans rfl
  have fgx_0 : w3.frozen? ⟨gx, 0, none⟩ = false := blk_frozen BKgx.out 0
  have fgx_1 : w3.frozen? ⟨gx, 1, none⟩ = false := blk_frozen BKgx.out 1
  have fgx_2 : w3.frozen? ⟨gx, 2, none⟩ = false := blk_frozen BKgx.out 2
  have cgy_0 : w3.cell? ⟨gy, 0, none⟩ = some (.int .u64 a2_0) := (blk_cell BKgy.out 0).trans rfl
  have cgy_1 : w3.cell? ⟨gy, 1, none⟩ = some (.int .u64 a2_1) := (blk_cell BKgy.out 1).trans rfl
  have cgy_2 : w3.cell? ⟨gy, 2, none⟩ = some (.int .u64 a2_2) := (blk_cell BKgy.out 2).trans rfl
  have fgy_0 : w3.frozen? ⟨gy, 0, none⟩ = false := blk_frozen BKgy.out 0
  have fgy_1 : w3.frozen? ⟨gy, 1, none⟩ = false := blk_frozen BKgy.out 1
  have fgy_2 : w3.frozen? ⟨gy, 2, none⟩ = false := blk_frozen BKgy.out 2
  go_wp2_with (first | (go_at_call 84; refine (policy_rules_6.calls a1_0 a1_1 a1_2 a2_0 a2_1 a2_2 true _ HX1.out).mono ?_; rintro e w4 ⟨rfl, hb⟩; have n_gp := bb BKgp hb; have n_gx := bb BKgx hb; have n_gy := bb BKgy hb; have n_gr := bb BKgr hb; have n_gb := bb BKgb hb; have n0_ := bs HB hb; clear HB BKgp BKgx BKgy BKgr BKgb; have HB := n0_; clear n0_; have BKgp := n_gp; clear n_gp; have BKgx := n_gx; clear n_gx; have BKgy := n_gy; clear n_gy; have BKgr := n_gr; clear n_gr; have BKgb := n_gb; clear n_gb; clear hb; clear cgb_5 cgb_1; clear cgx_0 fgx_0 cgx_1 fgx_1 cgx_2 fgx_2; clear cgy_0 fgy_0 cgy_1 fgy_1 cgy_2 fgy_2; have cgb_5 : w4.cell? ⟨gb, 5, none⟩ = some (.func (.func 84) #[] #[]) := (blk_cell BKgb.out 5).trans rfl; have cgb_1 : w4.cell? ⟨gb, 1, none⟩ = some (.func (.func 80) #[] #[]) := (blk_cell BKgb.out 1).trans rfl; have cgx_0 : w4.cell? ⟨gx, 0, none⟩ = some (.int .u64 a1_0) := (blk_cell BKgx.out 0).trans rfl; have cgx_1 : w4.cell? ⟨gx, 1, none⟩ = some (.int .u64 a1_1) := (blk_cell BKgx.out 1).trans rfl; have cgx_2 : w4.cell? ⟨gx, 2, none⟩ = some (.int .u64 a1_2) := (blk_cell BKgx.out 2).trans rfl; have fgx_0 : w4.frozen? ⟨gx, 0, none⟩ = false := blk_frozen BKgx.out 0; have fgx_1 : w4.frozen? ⟨gx, 1, none⟩ = false := blk_frozen BKgx.out 1; have fgx_2 : w4.frozen? ⟨gx, 2, none⟩ = false := blk_frozen BKgx.out 2) | (go_at_call 80; refine (policy_rules_2.calls a1_0 a1_1 a1_2 q1 q2 q3 _ HX2.out).mono ?_; rintro e w5 ⟨rfl, hb⟩; have n_gp := bb BKgp hb; have n_gx := bb BKgx hb; have n_gy := bb BKgy hb; have n_gr := bb BKgr hb; have n_gb := bb BKgb hb; have n0_ := bs HB hb; clear HB BKgp BKgx BKgy BKgr BKgb; have HB := n0_; clear n0_; have BKgp := n_gp; clear n_gp; have BKgx := n_gx; clear n_gx; have BKgy := n_gy; clear n_gy; have BKgr := n_gr; clear n_gr; have BKgb := n_gb; clear n_gb; clear hb; clear cgb_5 cgb_1; clear cgx_0 fgx_0 cgx_1 fgx_1 cgx_2 fgx_2; have cgr_0 : w5.cell? ⟨gr, 0, none⟩ = some (.int .u64 0) := (blk_cell BKgr.out 0).trans rfl; have cgr_1 : w5.cell? ⟨gr, 1, none⟩ = some (.int .u64 0) := (blk_cell BKgr.out 1).trans rfl; have cgr_2 : w5.cell? ⟨gr, 2, none⟩ = some (.int .u64 0) := (blk_cell BKgr.out 2).trans rfl; have fgr_0 : w5.frozen? ⟨gr, 0, none⟩ = false := blk_frozen BKgr.out 0; have fgr_1 : w5.frozen? ⟨gr, 1, none⟩ = false := blk_frozen BKgr.out 1; have fgr_2 : w5.frozen? ⟨gr, 2, none⟩ = false := blk_frozen BKgr.out 2))
  with_reducible refine bodyPost_ret (results_cell_row rfl _ _ gr 29 #[.int .u64 q1, .int .u64 q2, .int .u64 q3] (0, 0) _ rfl (put3_ BKgr.out) hu29 rfl (by kernel_rfl)) rfl ?_
  exact ⟨rfl, set3_ HB.out GEgr.out⟩
set_option maxHeartbeats 1600000 in
set_option maxRecDepth 100000 in
theorem policy_Max.flow_b (a0_1 a0_2 a0_3 a0_4 : Int) (a1_0 a1_1 a1_2 a2_0 a2_1 a2_2 : Int) (q1 q2 q3 : Int) (w : World) (h : policy_rules_1.f 1 a0_1 a0_2 a0_3 a0_4 = some true) (h1 : policy_rules_6.f a1_0 a1_1 a1_2 a2_0 a2_1 a2_2 = some false) (h2 : policy_rules_2.f a2_0 a2_1 a2_2 = some (q1, q2, q3)) :
    Calls Try.prog 26 #[.agg #[.int .i64 1, .int .u64 a0_1, .int .u64 a0_2, .int .u64 a0_3, .int .u64 a0_4], .agg #[.int .u64 a1_0, .int .u64 a1_1, .int .u64 a1_2], .agg #[.int .u64 a2_0, .int .u64 a2_1, .int .u64 a2_2]] w fun e w' => e = .returned (.agg #[.int .u64 q1, .int .u64 q2, .int .u64 q3]) ∧ Below w.heap.size w w' := by
  have HB := Aside0.mk (Below.refl w.heap.size w)
  have H := Aside0.mk h
  clear h
  have HX1 := Aside0.mk h1
  clear h1
  have HX2 := Aside0.mk h2
  clear h2
  have hu29 := Try.underlying29
  go_enter Try.func26, Try.ntmps26
  go_upto_region 2 with (first | ((with_reducible refine gate_dst (N := 3) rfl ?_); refine bx 3 #[.int .i64 1, .int .u64 a0_1, .int .u64 a0_2, .int .u64 a0_3, .int .u64 a0_4] 27 ?_; intro gp hg w_gp hbox hb; have n0_ := bs HB hb; have GEgp := sz HB hg; clear HB ; have HB := n0_; have BKgp := Aside0.mk hbox; clear n0_ hb hbox hg) | ((with_reducible refine gate_dst (N := 4) rfl ?_); refine bx 4 #[.int .u64 a1_0, .int .u64 a1_1, .int .u64 a1_2] 29 ?_; intro gx hg w_gx hbox hb; have n_gp := bb BKgp hb; have e_gp := nl BKgp hg; have n0_ := bs HB hb; have GEgx := sz HB hg; clear HB BKgp; have HB := n0_; have BKgp := n_gp; have NEgp_gx := e_gp; clear n_gp e_gp; have BKgx := Aside0.mk hbox; clear n0_ hb hbox hg) | ((with_reducible refine gate_dst (N := 5) rfl ?_); refine bx 5 #[.int .u64 a2_0, .int .u64 a2_1, .int .u64 a2_2] 29 ?_; intro gy hg w_gy hbox hb; have n_gp := bb BKgp hb; have e_gp := nl BKgp hg; have n_gx := bb BKgx hb; have e_gx := nl BKgx hg; have n0_ := bs HB hb; have GEgy := sz HB hg; clear HB BKgp BKgx; have HB := n0_; have BKgp := n_gp; have NEgp_gy := e_gp; clear n_gp e_gp; have BKgx := n_gx; have NEgx_gy := e_gx; clear n_gx e_gx; have BKgy := Aside0.mk hbox; clear n0_ hb hbox hg) | ((with_reducible refine gate_dst (N := 6) rfl ?_); refine bx 6 #[.int .u64 0, .int .u64 0, .int .u64 0] 29 ?_; intro gr hg w_gr hbox hb; have n_gp := bb BKgp hb; have e_gp := nl BKgp hg; have n_gx := bb BKgx hb; have e_gx := nl BKgx hg; have n_gy := bb BKgy hb; have e_gy := nl BKgy hg; have n0_ := bs HB hb; have GEgr := sz HB hg; clear HB BKgp BKgx BKgy; have HB := n0_; have BKgp := n_gp; have NEgp_gr := e_gp; clear n_gp e_gp; have BKgx := n_gx; have NEgx_gr := e_gx; clear n_gx e_gx; have BKgy := n_gy; have NEgy_gr := e_gy; clear n_gy e_gy; have BKgr := Aside0.mk hbox; clear n0_ hb hbox hg; have cgp_0 : w_gr.cell? ⟨gp, 0, none⟩ = some (.int .i64 1) := (blk_cell BKgp.out 0).trans rfl; have cgp_1 : w_gr.cell? ⟨gp, 1, none⟩ = some (.int .u64 a0_1) := (blk_cell BKgp.out 1).trans rfl; have cgp_2 : w_gr.cell? ⟨gp, 2, none⟩ = some (.int .u64 a0_2) := (blk_cell BKgp.out 2).trans rfl; have cgp_3 : w_gr.cell? ⟨gp, 3, none⟩ = some (.int .u64 a0_3) := (blk_cell BKgp.out 3).trans rfl; have cgp_4 : w_gr.cell? ⟨gp, 4, none⟩ = some (.int .u64 a0_4) := (blk_cell BKgp.out 4).trans rfl) | (go_at_call 47; refine (policy_of.flow _ _ _ _ true _ H.out).mono ?_; rintro e w2 ⟨rfl, hb⟩; have n_gp := bb BKgp hb; have n_gx := bb BKgx hb; have n_gy := bb BKgy hb; have n_gr := bb BKgr hb; have n0_ := bs HB hb; clear HB BKgp BKgx BKgy BKgr; have HB := n0_; clear n0_; have BKgp := n_gp; clear n_gp; have BKgx := n_gx; clear n_gx; have BKgy := n_gy; clear n_gy; have BKgr := n_gr; clear n_gr; clear hb))
  have GEgb : Aside0 (w.heap.size ≤ w2.heap.size) := ⟨HB.out.size⟩
  have NEgp_gb : Aside0 (gp ≠ w2.heap.size) := ⟨Nat.ne_of_lt (blk_lt BKgp.out)⟩
  have NEgx_gb : Aside0 (gx ≠ w2.heap.size) := ⟨Nat.ne_of_lt (blk_lt BKgx.out)⟩
  have NEgy_gb : Aside0 (gy ≠ w2.heap.size) := ⟨Nat.ne_of_lt (blk_lt BKgy.out)⟩
  have NEgr_gb : Aside0 (gr ≠ w2.heap.size) := ⟨Nat.ne_of_lt (blk_lt BKgr.out)⟩
  have n_gp := Aside0.mk (blk_alloc BKgp.out (.cells #[.func (.func 79) #[] #[], .func (.func 80) #[] #[], .func (.func 81) #[] #[], .func (.func 82) #[] #[], .func (.func 83) #[] #[], .func (.func 84) #[] #[]] 82))
  have n_gx := Aside0.mk (blk_alloc BKgx.out (.cells #[.func (.func 79) #[] #[], .func (.func 80) #[] #[], .func (.func 81) #[] #[], .func (.func 82) #[] #[], .func (.func 83) #[] #[], .func (.func 84) #[] #[]] 82))
  have n_gy := Aside0.mk (blk_alloc BKgy.out (.cells #[.func (.func 79) #[] #[], .func (.func 80) #[] #[], .func (.func 81) #[] #[], .func (.func 82) #[] #[], .func (.func 83) #[] #[], .func (.func 84) #[] #[]] 82))
  have n_gr := Aside0.mk (blk_alloc BKgr.out (.cells #[.func (.func 79) #[] #[], .func (.func 80) #[] #[], .func (.func 81) #[] #[], .func (.func 82) #[] #[], .func (.func 83) #[] #[], .func (.func 84) #[] #[]] 82))
  have BKgb : Aside0 ((w2.alloc (.cells #[.func (.func 79) #[] #[], .func (.func 80) #[] #[], .func (.func 81) #[] #[], .func (.func 82) #[] #[], .func (.func 83) #[] #[], .func (.func 84) #[] #[]] 82)).heap[w2.heap.size]? = _) := ⟨blk_new _ _⟩
  have n0_ := Aside0.mk (below_alloc HB.out (.cells #[.func (.func 79) #[] #[], .func (.func 80) #[] #[], .func (.func 81) #[] #[], .func (.func 82) #[] #[], .func (.func 83) #[] #[], .func (.func 84) #[] #[]] 82))
  clear HB BKgp BKgx BKgy BKgr
  have HB := n0_
  clear n0_
  have BKgp := n_gp
  have BKgx := n_gx
  have BKgy := n_gy
  have BKgr := n_gr
  clear n_gp n_gx n_gy n_gr
  generalize (w2.alloc (.cells #[.func (.func 79) #[] #[], .func (.func 80) #[] #[], .func (.func 81) #[] #[], .func (.func 82) #[] #[], .func (.func 83) #[] #[], .func (.func 84) #[] #[]] 82)) = w3 at *
  generalize w2.heap.size = gb at *
  have cgb_5 : w3.cell? ⟨gb, 5, none⟩ = some (.func (.func 84) #[] #[]) := (blk_cell BKgb.out 5).trans rfl
  have cgb_1 : w3.cell? ⟨gb, 1, none⟩ = some (.func (.func 80) #[] #[]) := (blk_cell BKgb.out 1).trans rfl
  have cgx_0 : w3.cell? ⟨gx, 0, none⟩ = some (.int .u64 a1_0) := (blk_cell BKgx.out 0).trans rfl
  have cgx_1 : w3.cell? ⟨gx, 1, none⟩ = some (.int .u64 a1_1) := (blk_cell BKgx.out 1).trans rfl
  have cgx_2 : w3.cell? ⟨gx, 2, none⟩ = some (.int .u64 a1_2) := (blk_cell BKgx.out 2).trans rfl
  have fgx_0 : w3.frozen? ⟨gx, 0, none⟩ = false := blk_frozen BKgx.out 0
  have fgx_1 : w3.frozen? ⟨gx, 1, none⟩ = false := blk_frozen BKgx.out 1
  have fgx_2 : w3.frozen? ⟨gx, 2, none⟩ = false := blk_frozen BKgx.out 2
  have cgy_0 : w3.cell? ⟨gy, 0, none⟩ = some (.int .u64 a2_0) := (blk_cell BKgy.out 0).trans rfl
  have cgy_1 : w3.cell? ⟨gy, 1, none⟩ = some (.int .u64 a2_1) := (blk_cell BKgy.out 1).trans rfl
  have cgy_2 : w3.cell? ⟨gy, 2, none⟩ = some (.int .u64 a2_2) := (blk_cell BKgy.out 2).trans rfl
  have fgy_0 : w3.frozen? ⟨gy, 0, none⟩ = false := blk_frozen BKgy.out 0
  have fgy_1 : w3.frozen? ⟨gy, 1, none⟩ = false := blk_frozen BKgy.out 1
  have fgy_2 : w3.frozen? ⟨gy, 2, none⟩ = false := blk_frozen BKgy.out 2
  go_wp2_with (first | (go_at_call 84; refine (policy_rules_6.calls a1_0 a1_1 a1_2 a2_0 a2_1 a2_2 false _ HX1.out).mono ?_; rintro e w4 ⟨rfl, hb⟩; have n_gp := bb BKgp hb; have n_gx := bb BKgx hb; have n_gy := bb BKgy hb; have n_gr := bb BKgr hb; have n_gb := bb BKgb hb; have n0_ := bs HB hb; clear HB BKgp BKgx BKgy BKgr BKgb; have HB := n0_; clear n0_; have BKgp := n_gp; clear n_gp; have BKgx := n_gx; clear n_gx; have BKgy := n_gy; clear n_gy; have BKgr := n_gr; clear n_gr; have BKgb := n_gb; clear n_gb; clear hb; clear cgb_5 cgb_1; clear cgx_0 fgx_0 cgx_1 fgx_1 cgx_2 fgx_2; clear cgy_0 fgy_0 cgy_1 fgy_1 cgy_2 fgy_2; have cgb_5 : w4.cell? ⟨gb, 5, none⟩ = some (.func (.func 84) #[] #[]) := (blk_cell BKgb.out 5).trans rfl; have cgb_1 : w4.cell? ⟨gb, 1, none⟩ = some (.func (.func 80) #[] #[]) := (blk_cell BKgb.out 1).trans rfl; have cgy_0 : w4.cell? ⟨gy, 0, none⟩ = some (.int .u64 a2_0) := (blk_cell BKgy.out 0).trans rfl; have cgy_1 : w4.cell? ⟨gy, 1, none⟩ = some (.int .u64 a2_1) := (blk_cell BKgy.out 1).trans rfl; have cgy_2 : w4.cell? ⟨gy, 2, none⟩ = some (.int .u64 a2_2) := (blk_cell BKgy.out 2).trans rfl; have fgy_0 : w4.frozen? ⟨gy, 0, none⟩ = false := blk_frozen BKgy.out 0; have fgy_1 : w4.frozen? ⟨gy, 1, none⟩ = false := blk_frozen BKgy.out 1; have fgy_2 : w4.frozen? ⟨gy, 2, none⟩ = false := blk_frozen BKgy.out 2) | (go_at_call 80; refine (policy_rules_2.calls a2_0 a2_1 a2_2 q1 q2 q3 _ HX2.out).mono ?_; rintro e w5 ⟨rfl, hb⟩; have n_gp := bb BKgp hb; have n_gx := bb BKgx hb; have n_gy := bb BKgy hb; have n_gr := bb BKgr hb; have n_gb := bb BKgb hb; have n0_ := bs HB hb; clear HB BKgp BKgx BKgy BKgr BKgb; have HB := n0_; clear n0_; have BKgp := n_gp; clear n_gp; have BKgx := n_gx; clear n_gx; have BKgy := n_gy; clear n_gy; have BKgr := n_gr; clear n_gr; have BKgb := n_gb; clear n_gb; clear hb; clear cgb_5 cgb_1; clear cgy_0 fgy_0 cgy_1 fgy_1 cgy_2 fgy_2; have cgr_0 : w5.cell? ⟨gr, 0, none⟩ = some (.int .u64 0) := (blk_cell BKgr.out 0).trans rfl; have cgr_1 : w5.cell? ⟨gr, 1, none⟩ = some (.int .u64 0) := (blk_cell BKgr.out 1).trans rfl; have cgr_2 : w5.cell? ⟨gr, 2, none⟩ = some (.int .u64 0) := (blk_cell BKgr.out 2).trans rfl; have fgr_0 : w5.frozen? ⟨gr, 0, none⟩ = false := blk_frozen BKgr.out 0; have fgr_1 : w5.frozen? ⟨gr, 1, none⟩ = false := blk_frozen BKgr.out 1; have fgr_2 : w5.frozen? ⟨gr, 2, none⟩ = false := blk_frozen BKgr.out 2))
  with_reducible refine bodyPost_ret (results_cell_row rfl _ _ gr 29 #[.int .u64 q1, .int .u64 q2, .int .u64 q3] (0, 0) _ rfl (put3_ BKgr.out) hu29 rfl (by kernel_rfl)) rfl ?_
  exact ⟨rfl, set3_ HB.out GEgr.out⟩
set_option maxHeartbeats 1600000 in
set_option maxRecDepth 100000 in
theorem policy_Max.flow_no (a0_1 a0_2 a0_3 a0_4 : Int) (a1_0 a1_1 a1_2 a2_0 a2_1 a2_2 : Int) (w : World) (h : policy_rules_1.f 1 a0_1 a0_2 a0_3 a0_4 = some false) :
    Calls Try.prog 26 #[.agg #[.int .i64 1, .int .u64 a0_1, .int .u64 a0_2, .int .u64 a0_3, .int .u64 a0_4], .agg #[.int .u64 a1_0, .int .u64 a1_1, .int .u64 a1_2], .agg #[.int .u64 a2_0, .int .u64 a2_1, .int .u64 a2_2]] w fun e w' => e = .returned (.agg #[.int .u64 0, .int .u64 0, .int .u64 0]) ∧ Below w.heap.size w w' := by
  have HB := Aside0.mk (Below.refl w.heap.size w)
  have H := Aside0.mk h
  clear h
  have hu29 := Try.underlying29
  go_enter Try.func26, Try.ntmps26
  go_upto_region 2 with (first | ((with_reducible refine gate_dst (N := 3) rfl ?_); refine bx 3 #[.int .i64 1, .int .u64 a0_1, .int .u64 a0_2, .int .u64 a0_3, .int .u64 a0_4] 27 ?_; intro gp hg w_gp hbox hb; have n0_ := bs HB hb; have GEgp := sz HB hg; clear HB ; have HB := n0_; have BKgp := Aside0.mk hbox; clear n0_ hb hbox hg) | ((with_reducible refine gate_dst (N := 4) rfl ?_); refine bx 4 #[.int .u64 a1_0, .int .u64 a1_1, .int .u64 a1_2] 29 ?_; intro gx hg w_gx hbox hb; have n_gp := bb BKgp hb; have e_gp := nl BKgp hg; have n0_ := bs HB hb; have GEgx := sz HB hg; clear HB BKgp; have HB := n0_; have BKgp := n_gp; have NEgp_gx := e_gp; clear n_gp e_gp; have BKgx := Aside0.mk hbox; clear n0_ hb hbox hg) | ((with_reducible refine gate_dst (N := 5) rfl ?_); refine bx 5 #[.int .u64 a2_0, .int .u64 a2_1, .int .u64 a2_2] 29 ?_; intro gy hg w_gy hbox hb; have n_gp := bb BKgp hb; have e_gp := nl BKgp hg; have n_gx := bb BKgx hb; have e_gx := nl BKgx hg; have n0_ := bs HB hb; have GEgy := sz HB hg; clear HB BKgp BKgx; have HB := n0_; have BKgp := n_gp; have NEgp_gy := e_gp; clear n_gp e_gp; have BKgx := n_gx; have NEgx_gy := e_gx; clear n_gx e_gx; have BKgy := Aside0.mk hbox; clear n0_ hb hbox hg) | ((with_reducible refine gate_dst (N := 6) rfl ?_); refine bx 6 #[.int .u64 0, .int .u64 0, .int .u64 0] 29 ?_; intro gr hg w_gr hbox hb; have n_gp := bb BKgp hb; have e_gp := nl BKgp hg; have n_gx := bb BKgx hb; have e_gx := nl BKgx hg; have n_gy := bb BKgy hb; have e_gy := nl BKgy hg; have n0_ := bs HB hb; have GEgr := sz HB hg; clear HB BKgp BKgx BKgy; have HB := n0_; have BKgp := n_gp; have NEgp_gr := e_gp; clear n_gp e_gp; have BKgx := n_gx; have NEgx_gr := e_gx; clear n_gx e_gx; have BKgy := n_gy; have NEgy_gr := e_gy; clear n_gy e_gy; have BKgr := Aside0.mk hbox; clear n0_ hb hbox hg; have cgp_0 : w_gr.cell? ⟨gp, 0, none⟩ = some (.int .i64 1) := (blk_cell BKgp.out 0).trans rfl; have cgp_1 : w_gr.cell? ⟨gp, 1, none⟩ = some (.int .u64 a0_1) := (blk_cell BKgp.out 1).trans rfl; have cgp_2 : w_gr.cell? ⟨gp, 2, none⟩ = some (.int .u64 a0_2) := (blk_cell BKgp.out 2).trans rfl; have cgp_3 : w_gr.cell? ⟨gp, 3, none⟩ = some (.int .u64 a0_3) := (blk_cell BKgp.out 3).trans rfl; have cgp_4 : w_gr.cell? ⟨gp, 4, none⟩ = some (.int .u64 a0_4) := (blk_cell BKgp.out 4).trans rfl) | (go_at_call 47; refine (policy_of.flow _ _ _ _ false _ H.out).mono ?_; rintro e w2 ⟨rfl, hb⟩; have n_gp := bb BKgp hb; have n_gx := bb BKgx hb; have n_gy := bb BKgy hb; have n_gr := bb BKgr hb; have n0_ := bs HB hb; clear HB BKgp BKgx BKgy BKgr; have HB := n0_; clear n0_; have BKgp := n_gp; clear n_gp; have BKgx := n_gx; clear n_gx; have BKgy := n_gy; clear n_gy; have BKgr := n_gr; clear n_gr; clear hb))
  have GEgb : Aside0 (w.heap.size ≤ w2.heap.size) := ⟨HB.out.size⟩
  have NEgp_gb : Aside0 (gp ≠ w2.heap.size) := ⟨Nat.ne_of_lt (blk_lt BKgp.out)⟩
  have NEgx_gb : Aside0 (gx ≠ w2.heap.size) := ⟨Nat.ne_of_lt (blk_lt BKgx.out)⟩
  have NEgy_gb : Aside0 (gy ≠ w2.heap.size) := ⟨Nat.ne_of_lt (blk_lt BKgy.out)⟩
  have NEgr_gb : Aside0 (gr ≠ w2.heap.size) := ⟨Nat.ne_of_lt (blk_lt BKgr.out)⟩
  have n_gp := Aside0.mk (blk_alloc BKgp.out (.cells #[.func (.func 79) #[] #[], .func (.func 80) #[] #[], .func (.func 81) #[] #[], .func (.func 82) #[] #[], .func (.func 83) #[] #[], .func (.func 84) #[] #[]] 82))
  have n_gx := Aside0.mk (blk_alloc BKgx.out (.cells #[.func (.func 79) #[] #[], .func (.func 80) #[] #[], .func (.func 81) #[] #[], .func (.func 82) #[] #[], .func (.func 83) #[] #[], .func (.func 84) #[] #[]] 82))
  have n_gy := Aside0.mk (blk_alloc BKgy.out (.cells #[.func (.func 79) #[] #[], .func (.func 80) #[] #[], .func (.func 81) #[] #[], .func (.func 82) #[] #[], .func (.func 83) #[] #[], .func (.func 84) #[] #[]] 82))
  have n_gr := Aside0.mk (blk_alloc BKgr.out (.cells #[.func (.func 79) #[] #[], .func (.func 80) #[] #[], .func (.func 81) #[] #[], .func (.func 82) #[] #[], .func (.func 83) #[] #[], .func (.func 84) #[] #[]] 82))
  have BKgb : Aside0 ((w2.alloc (.cells #[.func (.func 79) #[] #[], .func (.func 80) #[] #[], .func (.func 81) #[] #[], .func (.func 82) #[] #[], .func (.func 83) #[] #[], .func (.func 84) #[] #[]] 82)).heap[w2.heap.size]? = _) := ⟨blk_new _ _⟩
  have n0_ := Aside0.mk (below_alloc HB.out (.cells #[.func (.func 79) #[] #[], .func (.func 80) #[] #[], .func (.func 81) #[] #[], .func (.func 82) #[] #[], .func (.func 83) #[] #[], .func (.func 84) #[] #[]] 82))
  clear HB BKgp BKgx BKgy BKgr
  have HB := n0_
  clear n0_
  have BKgp := n_gp
  have BKgx := n_gx
  have BKgy := n_gy
  have BKgr := n_gr
  clear n_gp n_gx n_gy n_gr
  generalize (w2.alloc (.cells #[.func (.func 79) #[] #[], .func (.func 80) #[] #[], .func (.func 81) #[] #[], .func (.func 82) #[] #[], .func (.func 83) #[] #[], .func (.func 84) #[] #[]] 82)) = w3 at *
  generalize w2.heap.size = gb at *
  have cgr_0 : w3.cell? ⟨gr, 0, none⟩ = some (.int .u64 0) := (blk_cell BKgr.out 0).trans rfl
  have cgr_1 : w3.cell? ⟨gr, 1, none⟩ = some (.int .u64 0) := (blk_cell BKgr.out 1).trans rfl
  have cgr_2 : w3.cell? ⟨gr, 2, none⟩ = some (.int .u64 0) := (blk_cell BKgr.out 2).trans rfl
  have fgr_0 : w3.frozen? ⟨gr, 0, none⟩ = false := blk_frozen BKgr.out 0
  have fgr_1 : w3.frozen? ⟨gr, 1, none⟩ = false := blk_frozen BKgr.out 1
  have fgr_2 : w3.frozen? ⟨gr, 2, none⟩ = false := blk_frozen BKgr.out 2
  go_wp2_with (fail)
  with_reducible refine bodyPost_ret (results_cell_row rfl _ _ gr 29 #[.int .u64 0, .int .u64 0, .int .u64 0] (0, 0) _ rfl (put3_ BKgr.out) hu29 rfl (by kernel_rfl)) rfl ?_
  exact ⟨rfl, set3_ HB.out GEgr.out⟩
set_option maxHeartbeats 1600000 in
set_option maxRecDepth 100000 in
theorem policy_Max.grid_a (a0_1 a0_2 a0_3 a0_4 : Int) (a1_0 a1_1 a1_2 a2_0 a2_1 a2_2 : Int) (q1 q2 q3 : Int) (w : World) (h : policy_rules_7.f 2 a0_1 a0_2 a0_3 a0_4 = some true) (h1 : policy_rules_12.f a1_0 a1_1 a1_2 a2_0 a2_1 a2_2 = some true) (h2 : policy_rules_8.f a1_0 a1_1 a1_2 = some (q1, q2, q3)) :
    Calls Try.prog 26 #[.agg #[.int .i64 2, .int .u64 a0_1, .int .u64 a0_2, .int .u64 a0_3, .int .u64 a0_4], .agg #[.int .u64 a1_0, .int .u64 a1_1, .int .u64 a1_2], .agg #[.int .u64 a2_0, .int .u64 a2_1, .int .u64 a2_2]] w fun e w' => e = .returned (.agg #[.int .u64 q1, .int .u64 q2, .int .u64 q3]) ∧ Below w.heap.size w w' := by
  have HB := Aside0.mk (Below.refl w.heap.size w)
  have H := Aside0.mk h
  clear h
  have HX1 := Aside0.mk h1
  clear h1
  have HX2 := Aside0.mk h2
  clear h2
  have hu29 := Try.underlying29
  go_enter Try.func26, Try.ntmps26
  go_upto_region 2 with (first | ((with_reducible refine gate_dst (N := 3) rfl ?_); refine bx 3 #[.int .i64 2, .int .u64 a0_1, .int .u64 a0_2, .int .u64 a0_3, .int .u64 a0_4] 27 ?_; intro gp hg w_gp hbox hb; have n0_ := bs HB hb; have GEgp := sz HB hg; clear HB ; have HB := n0_; have BKgp := Aside0.mk hbox; clear n0_ hb hbox hg) | ((with_reducible refine gate_dst (N := 4) rfl ?_); refine bx 4 #[.int .u64 a1_0, .int .u64 a1_1, .int .u64 a1_2] 29 ?_; intro gx hg w_gx hbox hb; have n_gp := bb BKgp hb; have e_gp := nl BKgp hg; have n0_ := bs HB hb; have GEgx := sz HB hg; clear HB BKgp; have HB := n0_; have BKgp := n_gp; have NEgp_gx := e_gp; clear n_gp e_gp; have BKgx := Aside0.mk hbox; clear n0_ hb hbox hg) | ((with_reducible refine gate_dst (N := 5) rfl ?_); refine bx 5 #[.int .u64 a2_0, .int .u64 a2_1, .int .u64 a2_2] 29 ?_; intro gy hg w_gy hbox hb; have n_gp := bb BKgp hb; have e_gp := nl BKgp hg; have n_gx := bb BKgx hb; have e_gx := nl BKgx hg; have n0_ := bs HB hb; have GEgy := sz HB hg; clear HB BKgp BKgx; have HB := n0_; have BKgp := n_gp; have NEgp_gy := e_gp; clear n_gp e_gp; have BKgx := n_gx; have NEgx_gy := e_gx; clear n_gx e_gx; have BKgy := Aside0.mk hbox; clear n0_ hb hbox hg) | ((with_reducible refine gate_dst (N := 6) rfl ?_); refine bx 6 #[.int .u64 0, .int .u64 0, .int .u64 0] 29 ?_; intro gr hg w_gr hbox hb; have n_gp := bb BKgp hb; have e_gp := nl BKgp hg; have n_gx := bb BKgx hb; have e_gx := nl BKgx hg; have n_gy := bb BKgy hb; have e_gy := nl BKgy hg; have n0_ := bs HB hb; have GEgr := sz HB hg; clear HB BKgp BKgx BKgy; have HB := n0_; have BKgp := n_gp; have NEgp_gr := e_gp; clear n_gp e_gp; have BKgx := n_gx; have NEgx_gr := e_gx; clear n_gx e_gx; have BKgy := n_gy; have NEgy_gr := e_gy; clear n_gy e_gy; have BKgr := Aside0.mk hbox; clear n0_ hb hbox hg; have cgp_0 : w_gr.cell? ⟨gp, 0, none⟩ = some (.int .i64 2) := (blk_cell BKgp.out 0).trans rfl; have cgp_1 : w_gr.cell? ⟨gp, 1, none⟩ = some (.int .u64 a0_1) := (blk_cell BKgp.out 1).trans rfl; have cgp_2 : w_gr.cell? ⟨gp, 2, none⟩ = some (.int .u64 a0_2) := (blk_cell BKgp.out 2).trans rfl; have cgp_3 : w_gr.cell? ⟨gp, 3, none⟩ = some (.int .u64 a0_3) := (blk_cell BKgp.out 3).trans rfl; have cgp_4 : w_gr.cell? ⟨gp, 4, none⟩ = some (.int .u64 a0_4) := (blk_cell BKgp.out 4).trans rfl) | (go_at_call 47; refine (policy_of.grid _ _ _ _ true _ H.out).mono ?_; rintro e w2 ⟨rfl, hb⟩; have n_gp := bb BKgp hb; have n_gx := bb BKgx hb; have n_gy := bb BKgy hb; have n_gr := bb BKgr hb; have n0_ := bs HB hb; clear HB BKgp BKgx BKgy BKgr; have HB := n0_; clear n0_; have BKgp := n_gp; clear n_gp; have BKgx := n_gx; clear n_gx; have BKgy := n_gy; clear n_gy; have BKgr := n_gr; clear n_gr; clear hb))
  have GEgb : Aside0 (w.heap.size ≤ w2.heap.size) := ⟨HB.out.size⟩
  have NEgp_gb : Aside0 (gp ≠ w2.heap.size) := ⟨Nat.ne_of_lt (blk_lt BKgp.out)⟩
  have NEgx_gb : Aside0 (gx ≠ w2.heap.size) := ⟨Nat.ne_of_lt (blk_lt BKgx.out)⟩
  have NEgy_gb : Aside0 (gy ≠ w2.heap.size) := ⟨Nat.ne_of_lt (blk_lt BKgy.out)⟩
  have NEgr_gb : Aside0 (gr ≠ w2.heap.size) := ⟨Nat.ne_of_lt (blk_lt BKgr.out)⟩
  have n_gp := Aside0.mk (blk_alloc BKgp.out (.cells #[.func (.func 85) #[] #[], .func (.func 86) #[] #[], .func (.func 87) #[] #[], .func (.func 88) #[] #[], .func (.func 89) #[] #[], .func (.func 90) #[] #[]] 82))
  have n_gx := Aside0.mk (blk_alloc BKgx.out (.cells #[.func (.func 85) #[] #[], .func (.func 86) #[] #[], .func (.func 87) #[] #[], .func (.func 88) #[] #[], .func (.func 89) #[] #[], .func (.func 90) #[] #[]] 82))
  have n_gy := Aside0.mk (blk_alloc BKgy.out (.cells #[.func (.func 85) #[] #[], .func (.func 86) #[] #[], .func (.func 87) #[] #[], .func (.func 88) #[] #[], .func (.func 89) #[] #[], .func (.func 90) #[] #[]] 82))
  have n_gr := Aside0.mk (blk_alloc BKgr.out (.cells #[.func (.func 85) #[] #[], .func (.func 86) #[] #[], .func (.func 87) #[] #[], .func (.func 88) #[] #[], .func (.func 89) #[] #[], .func (.func 90) #[] #[]] 82))
  have BKgb : Aside0 ((w2.alloc (.cells #[.func (.func 85) #[] #[], .func (.func 86) #[] #[], .func (.func 87) #[] #[], .func (.func 88) #[] #[], .func (.func 89) #[] #[], .func (.func 90) #[] #[]] 82)).heap[w2.heap.size]? = _) := ⟨blk_new _ _⟩
  have n0_ := Aside0.mk (below_alloc HB.out (.cells #[.func (.func 85) #[] #[], .func (.func 86) #[] #[], .func (.func 87) #[] #[], .func (.func 88) #[] #[], .func (.func 89) #[] #[], .func (.func 90) #[] #[]] 82))
  clear HB BKgp BKgx BKgy BKgr
  have HB := n0_
  clear n0_
  have BKgp := n_gp
  have BKgx := n_gx
  have BKgy := n_gy
  have BKgr := n_gr
  clear n_gp n_gx n_gy n_gr
  generalize (w2.alloc (.cells #[.func (.func 85) #[] #[], .func (.func 86) #[] #[], .func (.func 87) #[] #[], .func (.func 88) #[] #[], .func (.func 89) #[] #[], .func (.func 90) #[] #[]] 82)) = w3 at *
  generalize w2.heap.size = gb at *
  have cgb_5 : w3.cell? ⟨gb, 5, none⟩ = some (.func (.func 90) #[] #[]) := (blk_cell BKgb.out 5).trans rfl
  have cgb_1 : w3.cell? ⟨gb, 1, none⟩ = some (.func (.func 86) #[] #[]) := (blk_cell BKgb.out 1).trans rfl
  have cgx_0 : w3.cell? ⟨gx, 0, none⟩ = some (.int .u64 a1_0) := (blk_cell BKgx.out 0).trans rfl
  have cgx_1 : w3.cell? ⟨gx, 1, none⟩ = some (.int .u64 a1_1) := (blk_cell BKgx.out 1).trans rfl
  have cgx_2 : w3.cell? ⟨gx, 2, none⟩ = some (.int .u64 a1_2) := (blk_cell BKgx.out 2).trans rfl
  have fgx_0 : w3.frozen? ⟨gx, 0, none⟩ = false := blk_frozen BKgx.out 0
  have fgx_1 : w3.frozen? ⟨gx, 1, none⟩ = false := blk_frozen BKgx.out 1
  have fgx_2 : w3.frozen? ⟨gx, 2, none⟩ = false := blk_frozen BKgx.out 2
  have cgy_0 : w3.cell? ⟨gy, 0, none⟩ = some (.int .u64 a2_0) := (blk_cell BKgy.out 0).trans rfl
  have cgy_1 : w3.cell? ⟨gy, 1, none⟩ = some (.int .u64 a2_1) := (blk_cell BKgy.out 1).trans rfl
  have cgy_2 : w3.cell? ⟨gy, 2, none⟩ = some (.int .u64 a2_2) := (blk_cell BKgy.out 2).trans rfl
  have fgy_0 : w3.frozen? ⟨gy, 0, none⟩ = false := blk_frozen BKgy.out 0
  have fgy_1 : w3.frozen? ⟨gy, 1, none⟩ = false := blk_frozen BKgy.out 1
  have fgy_2 : w3.frozen? ⟨gy, 2, none⟩ = false := blk_frozen BKgy.out 2
  go_wp2_with (first | (go_at_call 90; refine (policy_rules_12.calls a1_0 a1_1 a1_2 a2_0 a2_1 a2_2 true _ HX1.out).mono ?_; rintro e w4 ⟨rfl, hb⟩; have n_gp := bb BKgp hb; have n_gx := bb BKgx hb; have n_gy := bb BKgy hb; have n_gr := bb BKgr hb; have n_gb := bb BKgb hb; have n0_ := bs HB hb; clear HB BKgp BKgx BKgy BKgr BKgb; have HB := n0_; clear n0_; have BKgp := n_gp; clear n_gp; have BKgx := n_gx; clear n_gx; have BKgy := n_gy; clear n_gy; have BKgr := n_gr; clear n_gr; have BKgb := n_gb; clear n_gb; clear hb; clear cgb_5 cgb_1; clear cgx_0 fgx_0 cgx_1 fgx_1 cgx_2 fgx_2; clear cgy_0 fgy_0 cgy_1 fgy_1 cgy_2 fgy_2; have cgb_5 : w4.cell? ⟨gb, 5, none⟩ = some (.func (.func 90) #[] #[]) := (blk_cell BKgb.out 5).trans rfl; have cgb_1 : w4.cell? ⟨gb, 1, none⟩ = some (.func (.func 86) #[] #[]) := (blk_cell BKgb.out 1).trans rfl; have cgx_0 : w4.cell? ⟨gx, 0, none⟩ = some (.int .u64 a1_0) := (blk_cell BKgx.out 0).trans rfl; have cgx_1 : w4.cell? ⟨gx, 1, none⟩ = some (.int .u64 a1_1) := (blk_cell BKgx.out 1).trans rfl; have cgx_2 : w4.cell? ⟨gx, 2, none⟩ = some (.int .u64 a1_2) := (blk_cell BKgx.out 2).trans rfl; have fgx_0 : w4.frozen? ⟨gx, 0, none⟩ = false := blk_frozen BKgx.out 0; have fgx_1 : w4.frozen? ⟨gx, 1, none⟩ = false := blk_frozen BKgx.out 1; have fgx_2 : w4.frozen? ⟨gx, 2, none⟩ = false := blk_frozen BKgx.out 2) | (go_at_call 86; refine (policy_rules_8.calls a1_0 a1_1 a1_2 q1 q2 q3 _ HX2.out).mono ?_; rintro e w5 ⟨rfl, hb⟩; have n_gp := bb BKgp hb; have n_gx := bb BKgx hb; have n_gy := bb BKgy hb; have n_gr := bb BKgr hb; have n_gb := bb BKgb hb; have n0_ := bs HB hb; clear HB BKgp BKgx BKgy BKgr BKgb; have HB := n0_; clear n0_; have BKgp := n_gp; clear n_gp; have BKgx := n_gx; clear n_gx; have BKgy := n_gy; clear n_gy; have BKgr := n_gr; clear n_gr; have BKgb := n_gb; clear n_gb; clear hb; clear cgb_5 cgb_1; clear cgx_0 fgx_0 cgx_1 fgx_1 cgx_2 fgx_2; have cgr_0 : w5.cell? ⟨gr, 0, none⟩ = some (.int .u64 0) := (blk_cell BKgr.out 0).trans rfl; have cgr_1 : w5.cell? ⟨gr, 1, none⟩ = some (.int .u64 0) := (blk_cell BKgr.out 1).trans rfl; have cgr_2 : w5.cell? ⟨gr, 2, none⟩ = some (.int .u64 0) := (blk_cell BKgr.out 2).trans rfl; have fgr_0 : w5.frozen? ⟨gr, 0, none⟩ = false := blk_frozen BKgr.out 0; have fgr_1 : w5.frozen? ⟨gr, 1, none⟩ = false := blk_frozen BKgr.out 1; have fgr_2 : w5.frozen? ⟨gr, 2, none⟩ = false := blk_frozen BKgr.out 2))
  with_reducible refine bodyPost_ret (results_cell_row rfl _ _ gr 29 #[.int .u64 q1, .int .u64 q2, .int .u64 q3] (0, 0) _ rfl (put3_ BKgr.out) hu29 rfl (by kernel_rfl)) rfl ?_
  exact ⟨rfl, set3_ HB.out GEgr.out⟩
set_option maxHeartbeats 1600000 in
set_option maxRecDepth 100000 in
theorem policy_Max.grid_b (a0_1 a0_2 a0_3 a0_4 : Int) (a1_0 a1_1 a1_2 a2_0 a2_1 a2_2 : Int) (q1 q2 q3 : Int) (w : World) (h : policy_rules_7.f 2 a0_1 a0_2 a0_3 a0_4 = some true) (h1 : policy_rules_12.f a1_0 a1_1 a1_2 a2_0 a2_1 a2_2 = some false) (h2 : policy_rules_8.f a2_0 a2_1 a2_2 = some (q1, q2, q3)) :
    Calls Try.prog 26 #[.agg #[.int .i64 2, .int .u64 a0_1, .int .u64 a0_2, .int .u64 a0_3, .int .u64 a0_4], .agg #[.int .u64 a1_0, .int .u64 a1_1, .int .u64 a1_2], .agg #[.int .u64 a2_0, .int .u64 a2_1, .int .u64 a2_2]] w fun e w' => e = .returned (.agg #[.int .u64 q1, .int .u64 q2, .int .u64 q3]) ∧ Below w.heap.size w w' := by
  have HB := Aside0.mk (Below.refl w.heap.size w)
  have H := Aside0.mk h
  clear h
  have HX1 := Aside0.mk h1
  clear h1
  have HX2 := Aside0.mk h2
  clear h2
  have hu29 := Try.underlying29
  go_enter Try.func26, Try.ntmps26
  go_upto_region 2 with (first | ((with_reducible refine gate_dst (N := 3) rfl ?_); refine bx 3 #[.int .i64 2, .int .u64 a0_1, .int .u64 a0_2, .int .u64 a0_3, .int .u64 a0_4] 27 ?_; intro gp hg w_gp hbox hb; have n0_ := bs HB hb; have GEgp := sz HB hg; clear HB ; have HB := n0_; have BKgp := Aside0.mk hbox; clear n0_ hb hbox hg) | ((with_reducible refine gate_dst (N := 4) rfl ?_); refine bx 4 #[.int .u64 a1_0, .int .u64 a1_1, .int .u64 a1_2] 29 ?_; intro gx hg w_gx hbox hb; have n_gp := bb BKgp hb; have e_gp := nl BKgp hg; have n0_ := bs HB hb; have GEgx := sz HB hg; clear HB BKgp; have HB := n0_; have BKgp := n_gp; have NEgp_gx := e_gp; clear n_gp e_gp; have BKgx := Aside0.mk hbox; clear n0_ hb hbox hg) | ((with_reducible refine gate_dst (N := 5) rfl ?_); refine bx 5 #[.int .u64 a2_0, .int .u64 a2_1, .int .u64 a2_2] 29 ?_; intro gy hg w_gy hbox hb; have n_gp := bb BKgp hb; have e_gp := nl BKgp hg; have n_gx := bb BKgx hb; have e_gx := nl BKgx hg; have n0_ := bs HB hb; have GEgy := sz HB hg; clear HB BKgp BKgx; have HB := n0_; have BKgp := n_gp; have NEgp_gy := e_gp; clear n_gp e_gp; have BKgx := n_gx; have NEgx_gy := e_gx; clear n_gx e_gx; have BKgy := Aside0.mk hbox; clear n0_ hb hbox hg) | ((with_reducible refine gate_dst (N := 6) rfl ?_); refine bx 6 #[.int .u64 0, .int .u64 0, .int .u64 0] 29 ?_; intro gr hg w_gr hbox hb; have n_gp := bb BKgp hb; have e_gp := nl BKgp hg; have n_gx := bb BKgx hb; have e_gx := nl BKgx hg; have n_gy := bb BKgy hb; have e_gy := nl BKgy hg; have n0_ := bs HB hb; have GEgr := sz HB hg; clear HB BKgp BKgx BKgy; have HB := n0_; have BKgp := n_gp; have NEgp_gr := e_gp; clear n_gp e_gp; have BKgx := n_gx; have NEgx_gr := e_gx; clear n_gx e_gx; have BKgy := n_gy; have NEgy_gr := e_gy; clear n_gy e_gy; have BKgr := Aside0.mk hbox; clear n0_ hb hbox hg; have cgp_0 : w_gr.cell? ⟨gp, 0, none⟩ = some (.int .i64 2) := (blk_cell BKgp.out 0).trans rfl; have cgp_1 : w_gr.cell? ⟨gp, 1, none⟩ = some (.int .u64 a0_1) := (blk_cell BKgp.out 1).trans rfl; have cgp_2 : w_gr.cell? ⟨gp, 2, none⟩ = some (.int .u64 a0_2) := (blk_cell BKgp.out 2).trans rfl; have cgp_3 : w_gr.cell? ⟨gp, 3, none⟩ = some (.int .u64 a0_3) := (blk_cell BKgp.out 3).trans rfl; have cgp_4 : w_gr.cell? ⟨gp, 4, none⟩ = some (.int .u64 a0_4) := (blk_cell BKgp.out 4).trans rfl) | (go_at_call 47; refine (policy_of.grid _ _ _ _ true _ H.out).mono ?_; rintro e w2 ⟨rfl, hb⟩; have n_gp := bb BKgp hb; have n_gx := bb BKgx hb; have n_gy := bb BKgy hb; have n_gr := bb BKgr hb; have n0_ := bs HB hb; clear HB BKgp BKgx BKgy BKgr; have HB := n0_; clear n0_; have BKgp := n_gp; clear n_gp; have BKgx := n_gx; clear n_gx; have BKgy := n_gy; clear n_gy; have BKgr := n_gr; clear n_gr; clear hb))
  have GEgb : Aside0 (w.heap.size ≤ w2.heap.size) := ⟨HB.out.size⟩
  have NEgp_gb : Aside0 (gp ≠ w2.heap.size) := ⟨Nat.ne_of_lt (blk_lt BKgp.out)⟩
  have NEgx_gb : Aside0 (gx ≠ w2.heap.size) := ⟨Nat.ne_of_lt (blk_lt BKgx.out)⟩
  have NEgy_gb : Aside0 (gy ≠ w2.heap.size) := ⟨Nat.ne_of_lt (blk_lt BKgy.out)⟩
  have NEgr_gb : Aside0 (gr ≠ w2.heap.size) := ⟨Nat.ne_of_lt (blk_lt BKgr.out)⟩
  have n_gp := Aside0.mk (blk_alloc BKgp.out (.cells #[.func (.func 85) #[] #[], .func (.func 86) #[] #[], .func (.func 87) #[] #[], .func (.func 88) #[] #[], .func (.func 89) #[] #[], .func (.func 90) #[] #[]] 82))
  have n_gx := Aside0.mk (blk_alloc BKgx.out (.cells #[.func (.func 85) #[] #[], .func (.func 86) #[] #[], .func (.func 87) #[] #[], .func (.func 88) #[] #[], .func (.func 89) #[] #[], .func (.func 90) #[] #[]] 82))
  have n_gy := Aside0.mk (blk_alloc BKgy.out (.cells #[.func (.func 85) #[] #[], .func (.func 86) #[] #[], .func (.func 87) #[] #[], .func (.func 88) #[] #[], .func (.func 89) #[] #[], .func (.func 90) #[] #[]] 82))
  have n_gr := Aside0.mk (blk_alloc BKgr.out (.cells #[.func (.func 85) #[] #[], .func (.func 86) #[] #[], .func (.func 87) #[] #[], .func (.func 88) #[] #[], .func (.func 89) #[] #[], .func (.func 90) #[] #[]] 82))
  have BKgb : Aside0 ((w2.alloc (.cells #[.func (.func 85) #[] #[], .func (.func 86) #[] #[], .func (.func 87) #[] #[], .func (.func 88) #[] #[], .func (.func 89) #[] #[], .func (.func 90) #[] #[]] 82)).heap[w2.heap.size]? = _) := ⟨blk_new _ _⟩
  have n0_ := Aside0.mk (below_alloc HB.out (.cells #[.func (.func 85) #[] #[], .func (.func 86) #[] #[], .func (.func 87) #[] #[], .func (.func 88) #[] #[], .func (.func 89) #[] #[], .func (.func 90) #[] #[]] 82))
  clear HB BKgp BKgx BKgy BKgr
  have HB := n0_
  clear n0_
  have BKgp := n_gp
  have BKgx := n_gx
  have BKgy := n_gy
  have BKgr := n_gr
  clear n_gp n_gx n_gy n_gr
  generalize (w2.alloc (.cells #[.func (.func 85) #[] #[], .func (.func 86) #[] #[], .func (.func 87) #[] #[], .func (.func 88) #[] #[], .func (.func 89) #[] #[], .func (.func 90) #[] #[]] 82)) = w3 at *
  generalize w2.heap.size = gb at *
  have cgb_5 : w3.cell? ⟨gb, 5, none⟩ = some (.func (.func 90) #[] #[]) := (blk_cell BKgb.out 5).trans rfl
  have cgb_1 : w3.cell? ⟨gb, 1, none⟩ = some (.func (.func 86) #[] #[]) := (blk_cell BKgb.out 1).trans rfl
  have cgx_0 : w3.cell? ⟨gx, 0, none⟩ = some (.int .u64 a1_0) := (blk_cell BKgx.out 0).trans rfl
  have cgx_1 : w3.cell? ⟨gx, 1, none⟩ = some (.int .u64 a1_1) := (blk_cell BKgx.out 1).trans rfl
  have cgx_2 : w3.cell? ⟨gx, 2, none⟩ = some (.int .u64 a1_2) := (blk_cell BKgx.out 2).trans rfl
  have fgx_0 : w3.frozen? ⟨gx, 0, none⟩ = false := blk_frozen BKgx.out 0
  have fgx_1 : w3.frozen? ⟨gx, 1, none⟩ = false := blk_frozen BKgx.out 1
  have fgx_2 : w3.frozen? ⟨gx, 2, none⟩ = false := blk_frozen BKgx.out 2
  have cgy_0 : w3.cell? ⟨gy, 0, none⟩ = some (.int .u64 a2_0) := (blk_cell BKgy.out 0).trans rfl
  have cgy_1 : w3.cell? ⟨gy, 1, none⟩ = some (.int .u64 a2_1) := (blk_cell BKgy.out 1).trans rfl
  have cgy_2 : w3.cell? ⟨gy, 2, none⟩ = some (.int .u64 a2_2) := (blk_cell BKgy.out 2).trans rfl
  have fgy_0 : w3.frozen? ⟨gy, 0, none⟩ = false := blk_frozen BKgy.out 0
  have fgy_1 : w3.frozen? ⟨gy, 1, none⟩ = false := blk_frozen BKgy.out 1
  have fgy_2 : w3.frozen? ⟨gy, 2, none⟩ = false := blk_frozen BKgy.out 2
  go_wp2_with (first | (go_at_call 90; refine (policy_rules_12.calls a1_0 a1_1 a1_2 a2_0 a2_1 a2_2 false _ HX1.out).mono ?_; rintro e w4 ⟨rfl, hb⟩; have n_gp := bb BKgp hb; have n_gx := bb BKgx hb; have n_gy := bb BKgy hb; have n_gr := bb BKgr hb; have n_gb := bb BKgb hb; have n0_ := bs HB hb; clear HB BKgp BKgx BKgy BKgr BKgb; have HB := n0_; clear n0_; have BKgp := n_gp; clear n_gp; have BKgx := n_gx; clear n_gx; have BKgy := n_gy; clear n_gy; have BKgr := n_gr; clear n_gr; have BKgb := n_gb; clear n_gb; clear hb; clear cgb_5 cgb_1; clear cgx_0 fgx_0 cgx_1 fgx_1 cgx_2 fgx_2; clear cgy_0 fgy_0 cgy_1 fgy_1 cgy_2 fgy_2; have cgb_5 : w4.cell? ⟨gb, 5, none⟩ = some (.func (.func 90) #[] #[]) := (blk_cell BKgb.out 5).trans rfl; have cgb_1 : w4.cell? ⟨gb, 1, none⟩ = some (.func (.func 86) #[] #[]) := (blk_cell BKgb.out 1).trans rfl; have cgy_0 : w4.cell? ⟨gy, 0, none⟩ = some (.int .u64 a2_0) := (blk_cell BKgy.out 0).trans rfl; have cgy_1 : w4.cell? ⟨gy, 1, none⟩ = some (.int .u64 a2_1) := (blk_cell BKgy.out 1).trans rfl; have cgy_2 : w4.cell? ⟨gy, 2, none⟩ = some (.int .u64 a2_2) := (blk_cell BKgy.out 2).trans rfl; have fgy_0 : w4.frozen? ⟨gy, 0, none⟩ = false := blk_frozen BKgy.out 0; have fgy_1 : w4.frozen? ⟨gy, 1, none⟩ = false := blk_frozen BKgy.out 1; have fgy_2 : w4.frozen? ⟨gy, 2, none⟩ = false := blk_frozen BKgy.out 2) | (go_at_call 86; refine (policy_rules_8.calls a2_0 a2_1 a2_2 q1 q2 q3 _ HX2.out).mono ?_; rintro e w5 ⟨rfl, hb⟩; have n_gp := bb BKgp hb; have n_gx := bb BKgx hb; have n_gy := bb BKgy hb; have n_gr := bb BKgr hb; have n_gb := bb BKgb hb; have n0_ := bs HB hb; clear HB BKgp BKgx BKgy BKgr BKgb; have HB := n0_; clear n0_; have BKgp := n_gp; clear n_gp; have BKgx := n_gx; clear n_gx; have BKgy := n_gy; clear n_gy; have BKgr := n_gr; clear n_gr; have BKgb := n_gb; clear n_gb; clear hb; clear cgb_5 cgb_1; clear cgy_0 fgy_0 cgy_1 fgy_1 cgy_2 fgy_2; have cgr_0 : w5.cell? ⟨gr, 0, none⟩ = some (.int .u64 0) := (blk_cell BKgr.out 0).trans rfl; have cgr_1 : w5.cell? ⟨gr, 1, none⟩ = some (.int .u64 0) := (blk_cell BKgr.out 1).trans rfl; have cgr_2 : w5.cell? ⟨gr, 2, none⟩ = some (.int .u64 0) := (blk_cell BKgr.out 2).trans rfl; have fgr_0 : w5.frozen? ⟨gr, 0, none⟩ = false := blk_frozen BKgr.out 0; have fgr_1 : w5.frozen? ⟨gr, 1, none⟩ = false := blk_frozen BKgr.out 1; have fgr_2 : w5.frozen? ⟨gr, 2, none⟩ = false := blk_frozen BKgr.out 2))
  with_reducible refine bodyPost_ret (results_cell_row rfl _ _ gr 29 #[.int .u64 q1, .int .u64 q2, .int .u64 q3] (0, 0) _ rfl (put3_ BKgr.out) hu29 rfl (by kernel_rfl)) rfl ?_
  exact ⟨rfl, set3_ HB.out GEgr.out⟩
set_option maxHeartbeats 1600000 in
set_option maxRecDepth 100000 in
theorem policy_Max.grid_no (a0_1 a0_2 a0_3 a0_4 : Int) (a1_0 a1_1 a1_2 a2_0 a2_1 a2_2 : Int) (w : World) (h : policy_rules_7.f 2 a0_1 a0_2 a0_3 a0_4 = some false) :
    Calls Try.prog 26 #[.agg #[.int .i64 2, .int .u64 a0_1, .int .u64 a0_2, .int .u64 a0_3, .int .u64 a0_4], .agg #[.int .u64 a1_0, .int .u64 a1_1, .int .u64 a1_2], .agg #[.int .u64 a2_0, .int .u64 a2_1, .int .u64 a2_2]] w fun e w' => e = .returned (.agg #[.int .u64 0, .int .u64 0, .int .u64 0]) ∧ Below w.heap.size w w' := by
  have HB := Aside0.mk (Below.refl w.heap.size w)
  have H := Aside0.mk h
  clear h
  have hu29 := Try.underlying29
  go_enter Try.func26, Try.ntmps26
  go_upto_region 2 with (first | ((with_reducible refine gate_dst (N := 3) rfl ?_); refine bx 3 #[.int .i64 2, .int .u64 a0_1, .int .u64 a0_2, .int .u64 a0_3, .int .u64 a0_4] 27 ?_; intro gp hg w_gp hbox hb; have n0_ := bs HB hb; have GEgp := sz HB hg; clear HB ; have HB := n0_; have BKgp := Aside0.mk hbox; clear n0_ hb hbox hg) | ((with_reducible refine gate_dst (N := 4) rfl ?_); refine bx 4 #[.int .u64 a1_0, .int .u64 a1_1, .int .u64 a1_2] 29 ?_; intro gx hg w_gx hbox hb; have n_gp := bb BKgp hb; have e_gp := nl BKgp hg; have n0_ := bs HB hb; have GEgx := sz HB hg; clear HB BKgp; have HB := n0_; have BKgp := n_gp; have NEgp_gx := e_gp; clear n_gp e_gp; have BKgx := Aside0.mk hbox; clear n0_ hb hbox hg) | ((with_reducible refine gate_dst (N := 5) rfl ?_); refine bx 5 #[.int .u64 a2_0, .int .u64 a2_1, .int .u64 a2_2] 29 ?_; intro gy hg w_gy hbox hb; have n_gp := bb BKgp hb; have e_gp := nl BKgp hg; have n_gx := bb BKgx hb; have e_gx := nl BKgx hg; have n0_ := bs HB hb; have GEgy := sz HB hg; clear HB BKgp BKgx; have HB := n0_; have BKgp := n_gp; have NEgp_gy := e_gp; clear n_gp e_gp; have BKgx := n_gx; have NEgx_gy := e_gx; clear n_gx e_gx; have BKgy := Aside0.mk hbox; clear n0_ hb hbox hg) | ((with_reducible refine gate_dst (N := 6) rfl ?_); refine bx 6 #[.int .u64 0, .int .u64 0, .int .u64 0] 29 ?_; intro gr hg w_gr hbox hb; have n_gp := bb BKgp hb; have e_gp := nl BKgp hg; have n_gx := bb BKgx hb; have e_gx := nl BKgx hg; have n_gy := bb BKgy hb; have e_gy := nl BKgy hg; have n0_ := bs HB hb; have GEgr := sz HB hg; clear HB BKgp BKgx BKgy; have HB := n0_; have BKgp := n_gp; have NEgp_gr := e_gp; clear n_gp e_gp; have BKgx := n_gx; have NEgx_gr := e_gx; clear n_gx e_gx; have BKgy := n_gy; have NEgy_gr := e_gy; clear n_gy e_gy; have BKgr := Aside0.mk hbox; clear n0_ hb hbox hg; have cgp_0 : w_gr.cell? ⟨gp, 0, none⟩ = some (.int .i64 2) := (blk_cell BKgp.out 0).trans rfl; have cgp_1 : w_gr.cell? ⟨gp, 1, none⟩ = some (.int .u64 a0_1) := (blk_cell BKgp.out 1).trans rfl; have cgp_2 : w_gr.cell? ⟨gp, 2, none⟩ = some (.int .u64 a0_2) := (blk_cell BKgp.out 2).trans rfl; have cgp_3 : w_gr.cell? ⟨gp, 3, none⟩ = some (.int .u64 a0_3) := (blk_cell BKgp.out 3).trans rfl; have cgp_4 : w_gr.cell? ⟨gp, 4, none⟩ = some (.int .u64 a0_4) := (blk_cell BKgp.out 4).trans rfl) | (go_at_call 47; refine (policy_of.grid _ _ _ _ false _ H.out).mono ?_; rintro e w2 ⟨rfl, hb⟩; have n_gp := bb BKgp hb; have n_gx := bb BKgx hb; have n_gy := bb BKgy hb; have n_gr := bb BKgr hb; have n0_ := bs HB hb; clear HB BKgp BKgx BKgy BKgr; have HB := n0_; clear n0_; have BKgp := n_gp; clear n_gp; have BKgx := n_gx; clear n_gx; have BKgy := n_gy; clear n_gy; have BKgr := n_gr; clear n_gr; clear hb))
  have GEgb : Aside0 (w.heap.size ≤ w2.heap.size) := ⟨HB.out.size⟩
  have NEgp_gb : Aside0 (gp ≠ w2.heap.size) := ⟨Nat.ne_of_lt (blk_lt BKgp.out)⟩
  have NEgx_gb : Aside0 (gx ≠ w2.heap.size) := ⟨Nat.ne_of_lt (blk_lt BKgx.out)⟩
  have NEgy_gb : Aside0 (gy ≠ w2.heap.size) := ⟨Nat.ne_of_lt (blk_lt BKgy.out)⟩
  have NEgr_gb : Aside0 (gr ≠ w2.heap.size) := ⟨Nat.ne_of_lt (blk_lt BKgr.out)⟩
  have n_gp := Aside0.mk (blk_alloc BKgp.out (.cells #[.func (.func 85) #[] #[], .func (.func 86) #[] #[], .func (.func 87) #[] #[], .func (.func 88) #[] #[], .func (.func 89) #[] #[], .func (.func 90) #[] #[]] 82))
  have n_gx := Aside0.mk (blk_alloc BKgx.out (.cells #[.func (.func 85) #[] #[], .func (.func 86) #[] #[], .func (.func 87) #[] #[], .func (.func 88) #[] #[], .func (.func 89) #[] #[], .func (.func 90) #[] #[]] 82))
  have n_gy := Aside0.mk (blk_alloc BKgy.out (.cells #[.func (.func 85) #[] #[], .func (.func 86) #[] #[], .func (.func 87) #[] #[], .func (.func 88) #[] #[], .func (.func 89) #[] #[], .func (.func 90) #[] #[]] 82))
  have n_gr := Aside0.mk (blk_alloc BKgr.out (.cells #[.func (.func 85) #[] #[], .func (.func 86) #[] #[], .func (.func 87) #[] #[], .func (.func 88) #[] #[], .func (.func 89) #[] #[], .func (.func 90) #[] #[]] 82))
  have BKgb : Aside0 ((w2.alloc (.cells #[.func (.func 85) #[] #[], .func (.func 86) #[] #[], .func (.func 87) #[] #[], .func (.func 88) #[] #[], .func (.func 89) #[] #[], .func (.func 90) #[] #[]] 82)).heap[w2.heap.size]? = _) := ⟨blk_new _ _⟩
  have n0_ := Aside0.mk (below_alloc HB.out (.cells #[.func (.func 85) #[] #[], .func (.func 86) #[] #[], .func (.func 87) #[] #[], .func (.func 88) #[] #[], .func (.func 89) #[] #[], .func (.func 90) #[] #[]] 82))
  clear HB BKgp BKgx BKgy BKgr
  have HB := n0_
  clear n0_
  have BKgp := n_gp
  have BKgx := n_gx
  have BKgy := n_gy
  have BKgr := n_gr
  clear n_gp n_gx n_gy n_gr
  generalize (w2.alloc (.cells #[.func (.func 85) #[] #[], .func (.func 86) #[] #[], .func (.func 87) #[] #[], .func (.func 88) #[] #[], .func (.func 89) #[] #[], .func (.func 90) #[] #[]] 82)) = w3 at *
  generalize w2.heap.size = gb at *
  have cgr_0 : w3.cell? ⟨gr, 0, none⟩ = some (.int .u64 0) := (blk_cell BKgr.out 0).trans rfl
  have cgr_1 : w3.cell? ⟨gr, 1, none⟩ = some (.int .u64 0) := (blk_cell BKgr.out 1).trans rfl
  have cgr_2 : w3.cell? ⟨gr, 2, none⟩ = some (.int .u64 0) := (blk_cell BKgr.out 2).trans rfl
  have fgr_0 : w3.frozen? ⟨gr, 0, none⟩ = false := blk_frozen BKgr.out 0
  have fgr_1 : w3.frozen? ⟨gr, 1, none⟩ = false := blk_frozen BKgr.out 1
  have fgr_2 : w3.frozen? ⟨gr, 2, none⟩ = false := blk_frozen BKgr.out 2
  go_wp2_with (fail)
  with_reducible refine bodyPost_ret (results_cell_row rfl _ _ gr 29 #[.int .u64 0, .int .u64 0, .int .u64 0] (0, 0) _ rfl (put3_ BKgr.out) hu29 rfl (by kernel_rfl)) rfl ?_
  exact ⟨rfl, set3_ HB.out GEgr.out⟩
set_option maxHeartbeats 1600000 in
set_option maxRecDepth 100000 in
theorem policy_Max.other (a0_0 a0_1 a0_2 a0_3 a0_4 : Int) (a1_0 a1_1 a1_2 a2_0 a2_1 a2_2 : Int) (w : World) (hn1 : a0_0 ≠ 1) (hn2 : a0_0 ≠ 2) :
    Calls Try.prog 26 #[.agg #[.int .i64 a0_0, .int .u64 a0_1, .int .u64 a0_2, .int .u64 a0_3, .int .u64 a0_4], .agg #[.int .u64 a1_0, .int .u64 a1_1, .int .u64 a1_2], .agg #[.int .u64 a2_0, .int .u64 a2_1, .int .u64 a2_2]] w fun e w' => e = .returned (.agg #[.int .u64 0, .int .u64 0, .int .u64 0]) ∧ Below w.heap.size w w' := by
  have HB := Aside0.mk (Below.refl w.heap.size w)
  have H1 := Aside0.mk hn1
  have H2 := Aside0.mk hn2
  clear hn1 hn2
  have hu29 := Try.underlying29
  go_enter Try.func26, Try.ntmps26
  go_upto_region 2 with (first | ((with_reducible refine gate_dst (N := 3) rfl ?_); refine bx 3 #[.int .i64 a0_0, .int .u64 a0_1, .int .u64 a0_2, .int .u64 a0_3, .int .u64 a0_4] 27 ?_; intro gp hg w_gp hbox hb; have n0_ := bs HB hb; have GEgp := sz HB hg; clear HB ; have HB := n0_; have BKgp := Aside0.mk hbox; clear n0_ hb hbox hg) | ((with_reducible refine gate_dst (N := 4) rfl ?_); refine bx 4 #[.int .u64 a1_0, .int .u64 a1_1, .int .u64 a1_2] 29 ?_; intro gx hg w_gx hbox hb; have n_gp := bb BKgp hb; have e_gp := nl BKgp hg; have n0_ := bs HB hb; have GEgx := sz HB hg; clear HB BKgp; have HB := n0_; have BKgp := n_gp; have NEgp_gx := e_gp; clear n_gp e_gp; have BKgx := Aside0.mk hbox; clear n0_ hb hbox hg) | ((with_reducible refine gate_dst (N := 5) rfl ?_); refine bx 5 #[.int .u64 a2_0, .int .u64 a2_1, .int .u64 a2_2] 29 ?_; intro gy hg w_gy hbox hb; have n_gp := bb BKgp hb; have e_gp := nl BKgp hg; have n_gx := bb BKgx hb; have e_gx := nl BKgx hg; have n0_ := bs HB hb; have GEgy := sz HB hg; clear HB BKgp BKgx; have HB := n0_; have BKgp := n_gp; have NEgp_gy := e_gp; clear n_gp e_gp; have BKgx := n_gx; have NEgx_gy := e_gx; clear n_gx e_gx; have BKgy := Aside0.mk hbox; clear n0_ hb hbox hg) | ((with_reducible refine gate_dst (N := 6) rfl ?_); refine bx 6 #[.int .u64 0, .int .u64 0, .int .u64 0] 29 ?_; intro gr hg w_gr hbox hb; have n_gp := bb BKgp hb; have e_gp := nl BKgp hg; have n_gx := bb BKgx hb; have e_gx := nl BKgx hg; have n_gy := bb BKgy hb; have e_gy := nl BKgy hg; have n0_ := bs HB hb; have GEgr := sz HB hg; clear HB BKgp BKgx BKgy; have HB := n0_; have BKgp := n_gp; have NEgp_gr := e_gp; clear n_gp e_gp; have BKgx := n_gx; have NEgx_gr := e_gx; clear n_gx e_gx; have BKgy := n_gy; have NEgy_gr := e_gy; clear n_gy e_gy; have BKgr := Aside0.mk hbox; clear n0_ hb hbox hg; have cgp_0 : w_gr.cell? ⟨gp, 0, none⟩ = some (.int .i64 a0_0) := (blk_cell BKgp.out 0).trans rfl; have cgp_1 : w_gr.cell? ⟨gp, 1, none⟩ = some (.int .u64 a0_1) := (blk_cell BKgp.out 1).trans rfl; have cgp_2 : w_gr.cell? ⟨gp, 2, none⟩ = some (.int .u64 a0_2) := (blk_cell BKgp.out 2).trans rfl; have cgp_3 : w_gr.cell? ⟨gp, 3, none⟩ = some (.int .u64 a0_3) := (blk_cell BKgp.out 3).trans rfl; have cgp_4 : w_gr.cell? ⟨gp, 4, none⟩ = some (.int .u64 a0_4) := (blk_cell BKgp.out 4).trans rfl) | (go_at_call 47; refine (policy_of.other _ _ _ _ _ _ H1.out H2.out).mono ?_; rintro e w2 ⟨rfl, hb⟩; have n_gp := bb BKgp hb; have n_gx := bb BKgx hb; have n_gy := bb BKgy hb; have n_gr := bb BKgr hb; have n0_ := bs HB hb; clear HB BKgp BKgx BKgy BKgr; have HB := n0_; clear n0_; have BKgp := n_gp; clear n_gp; have BKgx := n_gx; clear n_gx; have BKgy := n_gy; clear n_gy; have BKgr := n_gr; clear n_gr; clear hb))
  have GEgb : Aside0 (w.heap.size ≤ w2.heap.size) := ⟨HB.out.size⟩
  have NEgp_gb : Aside0 (gp ≠ w2.heap.size) := ⟨Nat.ne_of_lt (blk_lt BKgp.out)⟩
  have NEgx_gb : Aside0 (gx ≠ w2.heap.size) := ⟨Nat.ne_of_lt (blk_lt BKgx.out)⟩
  have NEgy_gb : Aside0 (gy ≠ w2.heap.size) := ⟨Nat.ne_of_lt (blk_lt BKgy.out)⟩
  have NEgr_gb : Aside0 (gr ≠ w2.heap.size) := ⟨Nat.ne_of_lt (blk_lt BKgr.out)⟩
  have n_gp := Aside0.mk (blk_alloc BKgp.out (.cells #[.nilFunc, .nilFunc, .nilFunc, .nilFunc, .nilFunc, .nilFunc] 82))
  have n_gx := Aside0.mk (blk_alloc BKgx.out (.cells #[.nilFunc, .nilFunc, .nilFunc, .nilFunc, .nilFunc, .nilFunc] 82))
  have n_gy := Aside0.mk (blk_alloc BKgy.out (.cells #[.nilFunc, .nilFunc, .nilFunc, .nilFunc, .nilFunc, .nilFunc] 82))
  have n_gr := Aside0.mk (blk_alloc BKgr.out (.cells #[.nilFunc, .nilFunc, .nilFunc, .nilFunc, .nilFunc, .nilFunc] 82))
  have BKgb : Aside0 ((w2.alloc (.cells #[.nilFunc, .nilFunc, .nilFunc, .nilFunc, .nilFunc, .nilFunc] 82)).heap[w2.heap.size]? = _) := ⟨blk_new _ _⟩
  have n0_ := Aside0.mk (below_alloc HB.out (.cells #[.nilFunc, .nilFunc, .nilFunc, .nilFunc, .nilFunc, .nilFunc] 82))
  clear HB BKgp BKgx BKgy BKgr
  have HB := n0_
  clear n0_
  have BKgp := n_gp
  have BKgx := n_gx
  have BKgy := n_gy
  have BKgr := n_gr
  clear n_gp n_gx n_gy n_gr
  generalize (w2.alloc (.cells #[.nilFunc, .nilFunc, .nilFunc, .nilFunc, .nilFunc, .nilFunc] 82)) = w3 at *
  generalize w2.heap.size = gb at *
  have cgr_0 : w3.cell? ⟨gr, 0, none⟩ = some (.int .u64 0) := (blk_cell BKgr.out 0).trans rfl
  have cgr_1 : w3.cell? ⟨gr, 1, none⟩ = some (.int .u64 0) := (blk_cell BKgr.out 1).trans rfl
  have cgr_2 : w3.cell? ⟨gr, 2, none⟩ = some (.int .u64 0) := (blk_cell BKgr.out 2).trans rfl
  have fgr_0 : w3.frozen? ⟨gr, 0, none⟩ = false := blk_frozen BKgr.out 0
  have fgr_1 : w3.frozen? ⟨gr, 1, none⟩ = false := blk_frozen BKgr.out 1
  have fgr_2 : w3.frozen? ⟨gr, 2, none⟩ = false := blk_frozen BKgr.out 2
  go_wp2_with (fail)
  with_reducible refine bodyPost_ret (results_cell_row rfl _ _ gr 29 #[.int .u64 0, .int .u64 0, .int .u64 0] (0, 0) _ rfl (put3_ BKgr.out) hu29 rfl (by kernel_rfl)) rfl ?_
  exact ⟨rfl, set3_ HB.out GEgr.out⟩
theorem policy_Max.calls (a0_0 : Int) (a0_1 : Int) (a0_2 : Int) (a0_3 : Int) (a0_4 : Int) (a1_0 : Int) (a1_1 : Int) (a1_2 : Int) (a2_0 : Int) (a2_1 : Int) (a2_2 : Int) (r1 : Int) (r2 : Int) (r3 : Int) (w : World) (h : policy_Max.f a0_0 a0_1 a0_2 a0_3 a0_4 a1_0 a1_1 a1_2 a2_0 a2_1 a2_2 = some (r1, r2, r3)) :
    Calls Try.prog 26 #[.agg #[.int .i64 a0_0, .int .u64 a0_1, .int .u64 a0_2, .int .u64 a0_3, .int .u64 a0_4], .agg #[.int .u64 a1_0, .int .u64 a1_1, .int .u64 a1_2], .agg #[.int .u64 a2_0, .int .u64 a2_1, .int .u64 a2_2]] w fun e w' => e = .returned (.agg #[.int .u64 r1, .int .u64 r2, .int .u64 r3]) ∧ Below w.heap.size w w' := by
  unfold policy_Max.f at h
  obtain ⟨t, ht, h⟩ := Option.bind_eq_some_iff.mp h
  rcases policy_of.parts ht with ⟨rfl, hv⟩ | ⟨rfl, hv⟩ | ⟨c1, c2, rfl⟩
  · cases t with
    | true =>
      rw [if_pos rfl, if_pos rfl] at h
      obtain ⟨u, hu, h⟩ := Option.bind_eq_some_iff.mp h
      cases u with
      | true =>
        rw [if_pos rfl] at h
        exact policy_Max.flow_a a0_1 a0_2 a0_3 a0_4 a1_0 a1_1 a1_2 a2_0 a2_1 a2_2 r1 r2 r3 w hv hu h
      | false =>
        rw [if_neg (by decide)] at h
        exact policy_Max.flow_b a0_1 a0_2 a0_3 a0_4 a1_0 a1_1 a1_2 a2_0 a2_1 a2_2 r1 r2 r3 w hv hu h
    | false =>
      rw [if_neg (by decide)] at h
      simp only [Option.some.injEq, Prod.mk.injEq] at h
      obtain ⟨rfl, rfl, rfl⟩ := h
      exact policy_Max.flow_no a0_1 a0_2 a0_3 a0_4 a1_0 a1_1 a1_2 a2_0 a2_1 a2_2 w hv
  · cases t with
    | true =>
      rw [if_pos rfl, if_neg (by decide)] at h
      obtain ⟨u, hu, h⟩ := Option.bind_eq_some_iff.mp h
      cases u with
      | true =>
        rw [if_pos rfl] at h
        exact policy_Max.grid_a a0_1 a0_2 a0_3 a0_4 a1_0 a1_1 a1_2 a2_0 a2_1 a2_2 r1 r2 r3 w hv hu h
      | false =>
        rw [if_neg (by decide)] at h
        exact policy_Max.grid_b a0_1 a0_2 a0_3 a0_4 a1_0 a1_1 a1_2 a2_0 a2_1 a2_2 r1 r2 r3 w hv hu h
    | false =>
      rw [if_neg (by decide)] at h
      simp only [Option.some.injEq, Prod.mk.injEq] at h
      obtain ⟨rfl, rfl, rfl⟩ := h
      exact policy_Max.grid_no a0_1 a0_2 a0_3 a0_4 a1_0 a1_1 a1_2 a2_0 a2_1 a2_2 w hv
  · rw [if_neg (by decide)] at h
    simp only [Option.some.injEq, Prod.mk.injEq] at h
    obtain ⟨rfl, rfl, rfl⟩ := h
    exact policy_Max.other a0_0 a0_1 a0_2 a0_3 a0_4 a1_0 a1_1 a1_2 a2_0 a2_1 a2_2 w c1 c2

end Go.Proofs.Ytokfhdpokemekaa.Q
