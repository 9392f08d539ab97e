/- Written by the session's own program hyb.py: what functions of the program compute; Lean checks it. -/
import Derived.Test.YtdoifmefhofnnaaDx0
import Derived.Test.YtdoifmefhofnnaaDx6
import Derived.Test.YtdoifmefhofnnaaDx8
import Derived.Test.YtdoifmefhofnnaaDx9
import Derived.Test.YtdoifmefhofnnaaDx13
import Derived.Test.YtdoifmefhofnnaaDx14
import Derived.Test.YtdoifmefhofnnaaDx15
import Derived.Test.YtdoifmefhofnnaaWMaps
namespace Go.Proofs.Ytdoifmefhofnnaa.D
open Go.RowKit Go.Proofs.YtdoifmefhofnnaaW.PrintWords Go.Proofs.YtdoifmefhofnnaaW.PrintLast Go.Proofs.YtdoifmefhofnnaaW.PrintMore Go.Proofs.YtdoifmefhofnnaaW.PrintShort
attribute [local go_sem] run_Add64 run_Sub64
attribute [local go_sem] max2_int min2_int max_two min_two max_three min_three max_four min_four   -- for this text's walks alone
set_option linter.unusedVariables false
set_option linter.unusedSimpArgs false

/-! ### policy_Admit: function 25 -/
-- NEEDS WMaps
def policy_Admit.f (k : Nat) (a0_0 : Int) (a0_1 : Int) (a0_2 : Int) (a0_3 : Int) (a0_4 : Int) (a1_0 : Int) (a1_1 : Int) (a1_2 : Int) (a2 : Int) (a3 : Int) : Option (Int × Int × Int × Bool × Int) := (policy_of.ok a0_0 a0_1 a0_2 a0_3 a0_4).bind fun t => (if t = true then (if a0_0 = 1 then ((policy_rules_2.f a1_0 a1_1 a1_2).bind fun q => ((policy_rules_3.f k 1 a0_1 a0_2 a0_3 a0_4 q.1 q.2.1 q.2.2 a2 a3).bind fun m => (if m.2.2.2 = true then (some (m.1, m.2.1, m.2.2.1, true, 0)) else ((policy_rules_4.f k 1 a0_1 a0_2 a0_3 a0_4 q.1 q.2.1 q.2.2 a2 a3).bind fun x => (some (q.1, q.2.1, q.2.2, false, x)))))) else ((policy_rules_8.f a1_0 a1_1 a1_2).bind fun q => ((policy_rules_9.f k 2 a0_1 a0_2 a0_3 a0_4 q.1 q.2.1 q.2.2 a2 a3).bind fun m => (if m.2.2.2 = true then (some (m.1, m.2.1, m.2.2.1, true, 0)) else ((policy_rules_10.f k 2 a0_1 a0_2 a0_3 a0_4 q.1 q.2.1 q.2.2 a2 a3).bind fun x => (some (q.1, q.2.1, q.2.2, false, x))))))) else (some (0, 0, 0, false, 18446744073709551615)))
theorem policy_Admit.mono : ∀ a0_0 a0_1 a0_2 a0_3 a0_4 a1_0 a1_1 a1_2 a2 a3 k, LeO (policy_Admit.f k a0_0 a0_1 a0_2 a0_3 a0_4 a1_0 a1_1 a1_2 a2 a3) (policy_Admit.f (k + 1) a0_0 a0_1 a0_2 a0_3 a0_4 a1_0 a1_1 a1_2 a2 a3) := by
  intro a0_0 a0_1 a0_2 a0_3 a0_4 a1_0 a1_1 a1_2 a2 a3 k
  unfold policy_Admit.f
  repeat' first
      | (with_reducible exact policy_rules_3.mono _ _ _ _ _ _ _ _ _ _ _)
      | (with_reducible exact policy_rules_4.mono _ _ _ _ _ _ _ _ _ _ _)
      | (with_reducible exact policy_rules_9.mono _ _ _ _ _ _ _ _ _ _ _)
      | (with_reducible exact policy_rules_10.mono _ _ _ _ _ _ _ _ _ _ _)
      | (with_reducible exact LeO.refl _)
      | (with_reducible exact LeO.none _)
      | (with_reducible refine LeO.ite ?_ ?_)
      | (with_reducible refine LeO.bind ?_ (fun _ => ?_))
      | exact LeO.none _
      | refine LeO.ite ?_ ?_
      | refine LeO.bind ?_ (fun _ => ?_)
set_option maxHeartbeats 1600000 in
set_option maxRecDepth 100000 in
theorem policy_Admit.flow_a (a0_1 a0_2 a0_3 a0_4 : Int) (k : Nat) (a1_0 a1_1 a1_2 a2 a3 : Int) (q1 q2 q3 m1 m2 m3 : Int) (w : World) (h : policy_rules_1.f 1 a0_1 a0_2 a0_3 a0_4 = some true) (h1 : policy_rules_2.f a1_0 a1_1 a1_2 = some (q1, q2, q3)) (h2 : policy_rules_3.f k 1 a0_1 a0_2 a0_3 a0_4 q1 q2 q3 a2 a3 = some (m1, m2, m3, true)) :
    Calls Try.prog 25 #[.agg #[.int .i64 1, .int .u64 a0_1, .int .u64 a0_2, .int .u64 a0_3, .int .u64 a0_4], .agg #[.int .u64 a1_0, .int .u64 a1_1, .int .u64 a1_2], .int .u64 a2, .int .u64 a3] w fun e w' => e = .returned (.tuple #[.agg #[.int .u64 m1, .int .u64 m2, .int .u64 m3], .bool true, .int .u64 0]) ∧ Below w.heap.size w w' := by
  have HB := Aside0.mk (Below.refl w.heap.size w)
  have H := Aside0.mk h
  clear h
  have HX1 := Aside0.mk h1
  clear h1
  have HX2 := Aside0.mk h2
  clear h2
  have hu29 := Try.underlying40
  go_enter Try.func25, Try.ntmps25
  go_upto_region 2 with (first | ((with_reducible refine gate_dst (N := 4) rfl ?_); refine bx 4 #[.int .i64 1, .int .u64 a0_1, .int .u64 a0_2, .int .u64 a0_3, .int .u64 a0_4] 24 ?_; intro gp hg w_gp hbox hb; have n0_ := bs HB hb; have GEgp := sz HB hg; clear HB ; have HB := n0_; have BKgp := Aside0.mk hbox; clear n0_ hb hbox hg) | ((with_reducible refine gate_dst (N := 5) rfl ?_); refine bx 5 #[.int .u64 a1_0, .int .u64 a1_1, .int .u64 a1_2] 40 ?_; intro gv hg w_gv hbox hb; have n_gp := bb BKgp hb; have e_gp := nl BKgp hg; have n0_ := bs HB hb; have GEgv := sz HB hg; clear HB BKgp; have HB := n0_; have BKgp := n_gp; have NEgp_gv := e_gp; clear n_gp e_gp; have BKgv := Aside0.mk hbox; clear n0_ hb hbox hg) | ((with_reducible refine gate_dst (N := 8) rfl ?_); refine bx 8 #[.int .u64 0, .int .u64 0, .int .u64 0] 40 ?_; intro gr hg w_gr hbox hb; have n_gp := bb BKgp hb; have e_gp := nl BKgp hg; have n_gv := bb BKgv hb; have e_gv := nl BKgv hg; have n0_ := bs HB hb; have GEgr := sz HB hg; clear HB BKgp BKgv; have HB := n0_; have BKgp := n_gp; have NEgp_gr := e_gp; clear n_gp e_gp; have BKgv := n_gv; have NEgv_gr := e_gv; clear n_gv e_gv; have BKgr := Aside0.mk hbox; clear n0_ hb hbox hg; have cgp_0 : w_gr.cell? ⟨gp, 0, none⟩ = some (.int .i64 1) := (blk_cell BKgp.out 0).trans rfl; have cgp_1 : w_gr.cell? ⟨gp, 1, none⟩ = some (.int .u64 a0_1) := (blk_cell BKgp.out 1).trans rfl; have cgp_2 : w_gr.cell? ⟨gp, 2, none⟩ = some (.int .u64 a0_2) := (blk_cell BKgp.out 2).trans rfl; have cgp_3 : w_gr.cell? ⟨gp, 3, none⟩ = some (.int .u64 a0_3) := (blk_cell BKgp.out 3).trans rfl; have cgp_4 : w_gr.cell? ⟨gp, 4, none⟩ = some (.int .u64 a0_4) := (blk_cell BKgp.out 4).trans rfl) | (go_at_call 37; refine (policy_of.flow _ _ _ _ true _ H.out).mono ?_; rintro e w2 ⟨rfl, hb⟩; have n_gp := bb BKgp hb; have n_gv := bb BKgv hb; have n_gr := bb BKgr hb; have n0_ := bs HB hb; clear HB BKgp BKgv BKgr; have HB := n0_; clear n0_; have BKgp := n_gp; clear n_gp; have BKgv := n_gv; clear n_gv; have BKgr := n_gr; clear n_gr; clear hb))
  have GEgb : Aside0 (w.heap.size ≤ w2.heap.size) := ⟨HB.out.size⟩
  have NEgp_gb : Aside0 (gp ≠ w2.heap.size) := ⟨Nat.ne_of_lt (blk_lt BKgp.out)⟩
  have NEgv_gb : Aside0 (gv ≠ w2.heap.size) := ⟨Nat.ne_of_lt (blk_lt BKgv.out)⟩
  have NEgr_gb : Aside0 (gr ≠ w2.heap.size) := ⟨Nat.ne_of_lt (blk_lt BKgr.out)⟩
  have n_gp := Aside0.mk (blk_alloc BKgp.out (.cells #[.func (.func 56) #[] #[], .func (.func 57) #[] #[], .func (.func 58) #[] #[], .func (.func 60) #[] #[], .func (.func 62) #[] #[], .func (.func 64) #[] #[]] 102))
  have n_gv := Aside0.mk (blk_alloc BKgv.out (.cells #[.func (.func 56) #[] #[], .func (.func 57) #[] #[], .func (.func 58) #[] #[], .func (.func 60) #[] #[], .func (.func 62) #[] #[], .func (.func 64) #[] #[]] 102))
  have n_gr := Aside0.mk (blk_alloc BKgr.out (.cells #[.func (.func 56) #[] #[], .func (.func 57) #[] #[], .func (.func 58) #[] #[], .func (.func 60) #[] #[], .func (.func 62) #[] #[], .func (.func 64) #[] #[]] 102))
  have BKgb : Aside0 ((w2.alloc (.cells #[.func (.func 56) #[] #[], .func (.func 57) #[] #[], .func (.func 58) #[] #[], .func (.func 60) #[] #[], .func (.func 62) #[] #[], .func (.func 64) #[] #[]] 102)).heap[w2.heap.size]? = _) := ⟨blk_new _ _⟩
  have n0_ := Aside0.mk (below_alloc HB.out (.cells #[.func (.func 56) #[] #[], .func (.func 57) #[] #[], .func (.func 58) #[] #[], .func (.func 60) #[] #[], .func (.func 62) #[] #[], .func (.func 64) #[] #[]] 102))
  clear HB BKgp BKgv BKgr
  have HB := n0_
  clear n0_
  have BKgp := n_gp
  have BKgv := n_gv
  have BKgr := n_gr
  clear n_gp n_gv n_gr
  generalize (w2.alloc (.cells #[.func (.func 56) #[] #[], .func (.func 57) #[] #[], .func (.func 58) #[] #[], .func (.func 60) #[] #[], .func (.func 62) #[] #[], .func (.func 64) #[] #[]] 102)) = w3 at *
  generalize w2.heap.size = gb at *
  have cgb_1 : w3.cell? ⟨gb, 1, none⟩ = some (.func (.func 57) #[] #[]) := (blk_cell BKgb.out 1).trans rfl
  have cgb_2 : w3.cell? ⟨gb, 2, none⟩ = some (.func (.func 58) #[] #[]) := (blk_cell BKgb.out 2).trans rfl
  have cgv_0 : w3.cell? ⟨gv, 0, none⟩ = some (.int .u64 a1_0) := (blk_cell BKgv.out 0).trans rfl
  have cgv_1 : w3.cell? ⟨gv, 1, none⟩ = some (.int .u64 a1_1) := (blk_cell BKgv.out 1).trans rfl
  have cgv_2 : w3.cell? ⟨gv, 2, none⟩ = some (.int .u64 a1_2) := (blk_cell BKgv.out 2).trans rfl
  have fgv_0 : w3.frozen? ⟨gv, 0, none⟩ = false := blk_frozen BKgv.out 0
  have fgv_1 : w3.frozen? ⟨gv, 1, none⟩ = false := blk_frozen BKgv.out 1
  have fgv_2 : w3.frozen? ⟨gv, 2, none⟩ = false := blk_frozen BKgv.out 2
  go_upto_region 5 with (first | (go_at_call 57; refine (policy_rules_2.calls a1_0 a1_1 a1_2 q1 q2 q3 _ HX1.out).mono ?_; rintro e w4 ⟨rfl, hb⟩; have n_gp := bb BKgp hb; have n_gv := bb BKgv hb; have n_gr := bb BKgr hb; have n_gb := bb BKgb hb; have n0_ := bs HB hb; clear HB BKgp BKgv BKgr BKgb; have HB := n0_; clear n0_; have BKgp := n_gp; clear n_gp; have BKgv := n_gv; clear n_gv; have BKgr := n_gr; clear n_gr; have BKgb := n_gb; clear n_gb; clear hb; clear cgb_1 cgb_2; clear cgv_0 fgv_0 cgv_1 fgv_1 cgv_2 fgv_2; have cgv_0 : w4.cell? ⟨gv, 0, none⟩ = some (.int .u64 a1_0) := (blk_cell BKgv.out 0).trans rfl; have cgv_1 : w4.cell? ⟨gv, 1, none⟩ = some (.int .u64 a1_1) := (blk_cell BKgv.out 1).trans rfl; have cgv_2 : w4.cell? ⟨gv, 2, none⟩ = some (.int .u64 a1_2) := (blk_cell BKgv.out 2).trans rfl; have fgv_0 : w4.frozen? ⟨gv, 0, none⟩ = false := blk_frozen BKgv.out 0; have fgv_1 : w4.frozen? ⟨gv, 1, none⟩ = false := blk_frozen BKgv.out 1; have fgv_2 : w4.frozen? ⟨gv, 2, none⟩ = false := blk_frozen BKgv.out 2))
  clear cgv_0 fgv_0 cgv_1 fgv_1 cgv_2 fgv_2
  have n_gp := Aside0.mk (far3_ (a' := .int .u64 q1) (b' := .int .u64 q2) (c' := .int .u64 q3) BKgp.out NEgp_gv.out)
  have n_gr := Aside0.mk (far3_ (a' := .int .u64 q1) (b' := .int .u64 q2) (c' := .int .u64 q3) BKgr.out NEgv_gr.out.symm)
  have n_gb := Aside0.mk (far3_ (a' := .int .u64 q1) (b' := .int .u64 q2) (c' := .int .u64 q3) BKgb.out NEgv_gb.out.symm)
  have n_gv := Aside0.mk (put3_ (a' := .int .u64 q1) (b' := .int .u64 q2) (c' := .int .u64 q3) BKgv.out)
  have n0_ := Aside0.mk (set3_ (a' := .int .u64 q1) (b' := .int .u64 q2) (c' := .int .u64 q3) HB.out GEgv.out)
  clear BKgp BKgr BKgb BKgv HB
  have BKgp := n_gp
  have BKgr := n_gr
  have BKgb := n_gb
  have BKgv := n_gv
  have HB := n0_
  clear n_gp n_gr n_gb n_gv n0_
  generalize (((w4.setCell ⟨gv, 0, none⟩ (.int .u64 q1)).setCell ⟨gv, 1, none⟩ (.int .u64 q2)).setCell ⟨gv, 2, none⟩ (.int .u64 q3)) = w5 at *
  have cgb_1 : w5.cell? ⟨gb, 1, none⟩ = some (.func (.func 57) #[] #[]) := (blk_cell BKgb.out 1).trans rfl
  have cgb_2 : w5.cell? ⟨gb, 2, none⟩ = some (.func (.func 58) #[] #[]) := (blk_cell BKgb.out 2).trans rfl
  have cgv_0 : w5.cell? ⟨gv, 0, none⟩ = some (.int .u64 q1) := (blk_cell BKgv.out 0).trans rfl
  have cgv_1 : w5.cell? ⟨gv, 1, none⟩ = some (.int .u64 q2) := (blk_cell BKgv.out 1).trans rfl
  have cgv_2 : w5.cell? ⟨gv, 2, none⟩ = some (.int .u64 q3) := (blk_cell BKgv.out 2).trans rfl
  have fgv_0 : w5.frozen? ⟨gv, 0, none⟩ = false := blk_frozen BKgv.out 0
  have fgv_1 : w5.frozen? ⟨gv, 1, none⟩ = false := blk_frozen BKgv.out 1
  have fgv_2 : w5.frozen? ⟨gv, 2, none⟩ = false := blk_frozen BKgv.out 2
  have cgp_0 : w5.cell? ⟨gp, 0, none⟩ = some (.int .i64 1) := (blk_cell BKgp.out 0).trans rfl
  have cgp_1 : w5.cell? ⟨gp, 1, none⟩ = some (.int .u64 a0_1) := (blk_cell BKgp.out 1).trans rfl
  have cgp_2 : w5.cell? ⟨gp, 2, none⟩ = some (.int .u64 a0_2) := (blk_cell BKgp.out 2).trans rfl
  have cgp_3 : w5.cell? ⟨gp, 3, none⟩ = some (.int .u64 a0_3) := (blk_cell BKgp.out 3).trans rfl
  have cgp_4 : w5.cell? ⟨gp, 4, none⟩ = some (.int .u64 a0_4) := (blk_cell BKgp.out 4).trans rfl
  have fgp_0 : w5.frozen? ⟨gp, 0, none⟩ = false := blk_frozen BKgp.out 0
  have fgp_1 : w5.frozen? ⟨gp, 1, none⟩ = false := blk_frozen BKgp.out 1
  have fgp_2 : w5.frozen? ⟨gp, 2, none⟩ = false := blk_frozen BKgp.out 2
  have fgp_3 : w5.frozen? ⟨gp, 3, none⟩ = false := blk_frozen BKgp.out 3
  have fgp_4 : w5.frozen? ⟨gp, 4, none⟩ = false := blk_frozen BKgp.out 4
  go_upto_region 6 with (first | (go_at_call 58; refine (policy_rules_3.calls k 1 a0_1 a0_2 a0_3 a0_4 q1 q2 q3 a2 a3 m1 m2 m3 true _ HX2.out).mono ?_; rintro e w6 ⟨rfl, hb⟩; have n_gp := bb BKgp hb; have n_gv := bb BKgv hb; have n_gr := bb BKgr hb; have n_gb := bb BKgb hb; have n0_ := bs HB hb; clear HB BKgp BKgv BKgr BKgb; have HB := n0_; clear n0_; have BKgp := n_gp; clear n_gp; have BKgv := n_gv; clear n_gv; have BKgr := n_gr; clear n_gr; have BKgb := n_gb; clear n_gb; clear hb; clear cgb_1 cgb_2; clear cgv_0 fgv_0 cgv_1 fgv_1 cgv_2 fgv_2; clear cgp_0 fgp_0 cgp_1 fgp_1 cgp_2 fgp_2 cgp_3 fgp_3 cgp_4 fgp_4))
  have GEgn : Aside0 (w.heap.size ≤ w6.heap.size) := ⟨HB.out.size⟩
  have NEgp_gn : Aside0 (gp ≠ w6.heap.size) := ⟨Nat.ne_of_lt (blk_lt BKgp.out)⟩
  have NEgv_gn : Aside0 (gv ≠ w6.heap.size) := ⟨Nat.ne_of_lt (blk_lt BKgv.out)⟩
  have NEgr_gn : Aside0 (gr ≠ w6.heap.size) := ⟨Nat.ne_of_lt (blk_lt BKgr.out)⟩
  have NEgb_gn : Aside0 (gb ≠ w6.heap.size) := ⟨Nat.ne_of_lt (blk_lt BKgb.out)⟩
  have n_gp := Aside0.mk (blk_alloc BKgp.out (.cells #[.int .u64 m1, .int .u64 m2, .int .u64 m3] 40))
  have n_gv := Aside0.mk (blk_alloc BKgv.out (.cells #[.int .u64 m1, .int .u64 m2, .int .u64 m3] 40))
  have n_gr := Aside0.mk (blk_alloc BKgr.out (.cells #[.int .u64 m1, .int .u64 m2, .int .u64 m3] 40))
  have n_gb := Aside0.mk (blk_alloc BKgb.out (.cells #[.int .u64 m1, .int .u64 m2, .int .u64 m3] 40))
  have BKgn : Aside0 ((w6.alloc (.cells #[.int .u64 m1, .int .u64 m2, .int .u64 m3] 40)).heap[w6.heap.size]? = _) := ⟨blk_new _ _⟩
  have n0_ := Aside0.mk (below_alloc HB.out (.cells #[.int .u64 m1, .int .u64 m2, .int .u64 m3] 40))
  clear HB BKgp BKgv BKgr BKgb
  have HB := n0_
  clear n0_
  have BKgp := n_gp
  have BKgv := n_gv
  have BKgr := n_gr
  have BKgb := n_gb
  clear n_gp n_gv n_gr n_gb
  generalize (w6.alloc (.cells #[.int .u64 m1, .int .u64 m2, .int .u64 m3] 40)) = w7 at *
  generalize w6.heap.size = gn at *
  have cgn_0 : w7.cell? ⟨gn, 0, none⟩ = some (.int .u64 m1) := (blk_cell BKgn.out 0).trans rfl
  have cgn_1 : w7.cell? ⟨gn, 1, none⟩ = some (.int .u64 m2) := (blk_cell BKgn.out 1).trans rfl
  have cgn_2 : w7.cell? ⟨gn, 2, none⟩ = some (.int .u64 m3) := (blk_cell BKgn.out 2).trans rfl
  have fgn_0 : w7.frozen? ⟨gn, 0, none⟩ = false := blk_frozen BKgn.out 0
  have fgn_1 : w7.frozen? ⟨gn, 1, none⟩ = false := blk_frozen BKgn.out 1
  have fgn_2 : w7.frozen? ⟨gn, 2, none⟩ = false := blk_frozen BKgn.out 2
  have cgr_0 : w7.cell? ⟨gr, 0, none⟩ = some (.int .u64 0) := (blk_cell BKgr.out 0).trans rfl
  have cgr_1 : w7.cell? ⟨gr, 1, none⟩ = some (.int .u64 0) := (blk_cell BKgr.out 1).trans rfl
  have cgr_2 : w7.cell? ⟨gr, 2, none⟩ = some (.int .u64 0) := (blk_cell BKgr.out 2).trans rfl
  have fgr_0 : w7.frozen? ⟨gr, 0, none⟩ = false := blk_frozen BKgr.out 0
  have fgr_1 : w7.frozen? ⟨gr, 1, none⟩ = false := blk_frozen BKgr.out 1
  have fgr_2 : w7.frozen? ⟨gr, 2, none⟩ = false := blk_frozen BKgr.out 2
  go_wp2_with (fail)
  with_reducible refine bodyPost_ret (results_ctt rfl _ _ gr 40 #[.int .u64 m1, .int .u64 m2, .int .u64 m3] (0, 0) _ rfl (put3_ BKgr.out) hu29 rfl (by kernel_rfl)) rfl ?_
  exact ⟨rfl, set3_ HB.out GEgr.out⟩
set_option maxHeartbeats 1600000 in
set_option maxRecDepth 100000 in
theorem policy_Admit.flow_b (a0_1 a0_2 a0_3 a0_4 : Int) (k : Nat) (a1_0 a1_1 a1_2 a2 a3 : Int) (q1 q2 q3 m1 m2 m3 x : Int) (w : World) (h : policy_rules_1.f 1 a0_1 a0_2 a0_3 a0_4 = some true) (h1 : policy_rules_2.f a1_0 a1_1 a1_2 = some (q1, q2, q3)) (h2 : policy_rules_3.f k 1 a0_1 a0_2 a0_3 a0_4 q1 q2 q3 a2 a3 = some (m1, m2, m3, false)) (h3 : policy_rules_4.f k 1 a0_1 a0_2 a0_3 a0_4 q1 q2 q3 a2 a3 = some x) :
    Calls Try.prog 25 #[.agg #[.int .i64 1, .int .u64 a0_1, .int .u64 a0_2, .int .u64 a0_3, .int .u64 a0_4], .agg #[.int .u64 a1_0, .int .u64 a1_1, .int .u64 a1_2], .int .u64 a2, .int .u64 a3] w fun e w' => e = .returned (.tuple #[.agg #[.int .u64 q1, .int .u64 q2, .int .u64 q3], .bool false, .int .u64 x]) ∧ Below w.heap.size w w' := by
  have HB := Aside0.mk (Below.refl w.heap.size w)
  have H := Aside0.mk h
  clear h
  have HX1 := Aside0.mk h1
  clear h1
  have HX2 := Aside0.mk h2
  clear h2
  have HX3 := Aside0.mk h3
  clear h3
  have hu29 := Try.underlying40
  go_enter Try.func25, Try.ntmps25
  go_upto_region 2 with (first | ((with_reducible refine gate_dst (N := 4) rfl ?_); refine bx 4 #[.int .i64 1, .int .u64 a0_1, .int .u64 a0_2, .int .u64 a0_3, .int .u64 a0_4] 24 ?_; intro gp hg w_gp hbox hb; have n0_ := bs HB hb; have GEgp := sz HB hg; clear HB ; have HB := n0_; have BKgp := Aside0.mk hbox; clear n0_ hb hbox hg) | ((with_reducible refine gate_dst (N := 5) rfl ?_); refine bx 5 #[.int .u64 a1_0, .int .u64 a1_1, .int .u64 a1_2] 40 ?_; intro gv hg w_gv hbox hb; have n_gp := bb BKgp hb; have e_gp := nl BKgp hg; have n0_ := bs HB hb; have GEgv := sz HB hg; clear HB BKgp; have HB := n0_; have BKgp := n_gp; have NEgp_gv := e_gp; clear n_gp e_gp; have BKgv := Aside0.mk hbox; clear n0_ hb hbox hg) | ((with_reducible refine gate_dst (N := 8) rfl ?_); refine bx 8 #[.int .u64 0, .int .u64 0, .int .u64 0] 40 ?_; intro gr hg w_gr hbox hb; have n_gp := bb BKgp hb; have e_gp := nl BKgp hg; have n_gv := bb BKgv hb; have e_gv := nl BKgv hg; have n0_ := bs HB hb; have GEgr := sz HB hg; clear HB BKgp BKgv; have HB := n0_; have BKgp := n_gp; have NEgp_gr := e_gp; clear n_gp e_gp; have BKgv := n_gv; have NEgv_gr := e_gv; clear n_gv e_gv; have BKgr := Aside0.mk hbox; clear n0_ hb hbox hg; have cgp_0 : w_gr.cell? ⟨gp, 0, none⟩ = some (.int .i64 1) := (blk_cell BKgp.out 0).trans rfl; have cgp_1 : w_gr.cell? ⟨gp, 1, none⟩ = some (.int .u64 a0_1) := (blk_cell BKgp.out 1).trans rfl; have cgp_2 : w_gr.cell? ⟨gp, 2, none⟩ = some (.int .u64 a0_2) := (blk_cell BKgp.out 2).trans rfl; have cgp_3 : w_gr.cell? ⟨gp, 3, none⟩ = some (.int .u64 a0_3) := (blk_cell BKgp.out 3).trans rfl; have cgp_4 : w_gr.cell? ⟨gp, 4, none⟩ = some (.int .u64 a0_4) := (blk_cell BKgp.out 4).trans rfl) | (go_at_call 37; refine (policy_of.flow _ _ _ _ true _ H.out).mono ?_; rintro e w2 ⟨rfl, hb⟩; have n_gp := bb BKgp hb; have n_gv := bb BKgv hb; have n_gr := bb BKgr hb; have n0_ := bs HB hb; clear HB BKgp BKgv BKgr; have HB := n0_; clear n0_; have BKgp := n_gp; clear n_gp; have BKgv := n_gv; clear n_gv; have BKgr := n_gr; clear n_gr; clear hb))
  have GEgb : Aside0 (w.heap.size ≤ w2.heap.size) := ⟨HB.out.size⟩
  have NEgp_gb : Aside0 (gp ≠ w2.heap.size) := ⟨Nat.ne_of_lt (blk_lt BKgp.out)⟩
  have NEgv_gb : Aside0 (gv ≠ w2.heap.size) := ⟨Nat.ne_of_lt (blk_lt BKgv.out)⟩
  have NEgr_gb : Aside0 (gr ≠ w2.heap.size) := ⟨Nat.ne_of_lt (blk_lt BKgr.out)⟩
  have n_gp := Aside0.mk (blk_alloc BKgp.out (.cells #[.func (.func 56) #[] #[], .func (.func 57) #[] #[], .func (.func 58) #[] #[], .func (.func 60) #[] #[], .func (.func 62) #[] #[], .func (.func 64) #[] #[]] 102))
  have n_gv := Aside0.mk (blk_alloc BKgv.out (.cells #[.func (.func 56) #[] #[], .func (.func 57) #[] #[], .func (.func 58) #[] #[], .func (.func 60) #[] #[], .func (.func 62) #[] #[], .func (.func 64) #[] #[]] 102))
  have n_gr := Aside0.mk (blk_alloc BKgr.out (.cells #[.func (.func 56) #[] #[], .func (.func 57) #[] #[], .func (.func 58) #[] #[], .func (.func 60) #[] #[], .func (.func 62) #[] #[], .func (.func 64) #[] #[]] 102))
  have BKgb : Aside0 ((w2.alloc (.cells #[.func (.func 56) #[] #[], .func (.func 57) #[] #[], .func (.func 58) #[] #[], .func (.func 60) #[] #[], .func (.func 62) #[] #[], .func (.func 64) #[] #[]] 102)).heap[w2.heap.size]? = _) := ⟨blk_new _ _⟩
  have n0_ := Aside0.mk (below_alloc HB.out (.cells #[.func (.func 56) #[] #[], .func (.func 57) #[] #[], .func (.func 58) #[] #[], .func (.func 60) #[] #[], .func (.func 62) #[] #[], .func (.func 64) #[] #[]] 102))
  clear HB BKgp BKgv BKgr
  have HB := n0_
  clear n0_
  have BKgp := n_gp
  have BKgv := n_gv
  have BKgr := n_gr
  clear n_gp n_gv n_gr
  generalize (w2.alloc (.cells #[.func (.func 56) #[] #[], .func (.func 57) #[] #[], .func (.func 58) #[] #[], .func (.func 60) #[] #[], .func (.func 62) #[] #[], .func (.func 64) #[] #[]] 102)) = w3 at *
  generalize w2.heap.size = gb at *
  have cgb_1 : w3.cell? ⟨gb, 1, none⟩ = some (.func (.func 57) #[] #[]) := (blk_cell BKgb.out 1).trans rfl
  have cgb_2 : w3.cell? ⟨gb, 2, none⟩ = some (.func (.func 58) #[] #[]) := (blk_cell BKgb.out 2).trans rfl
  have cgv_0 : w3.cell? ⟨gv, 0, none⟩ = some (.int .u64 a1_0) := (blk_cell BKgv.out 0).trans rfl
  have cgv_1 : w3.cell? ⟨gv, 1, none⟩ = some (.int .u64 a1_1) := (blk_cell BKgv.out 1).trans rfl
  have cgv_2 : w3.cell? ⟨gv, 2, none⟩ = some (.int .u64 a1_2) := (blk_cell BKgv.out 2).trans rfl
  have fgv_0 : w3.frozen? ⟨gv, 0, none⟩ = false := blk_frozen BKgv.out 0
  have fgv_1 : w3.frozen? ⟨gv, 1, none⟩ = false := blk_frozen BKgv.out 1
  have fgv_2 : w3.frozen? ⟨gv, 2, none⟩ = false := blk_frozen BKgv.out 2
  go_upto_region 5 with (first | (go_at_call 57; refine (policy_rules_2.calls a1_0 a1_1 a1_2 q1 q2 q3 _ HX1.out).mono ?_; rintro e w4 ⟨rfl, hb⟩; have n_gp := bb BKgp hb; have n_gv := bb BKgv hb; have n_gr := bb BKgr hb; have n_gb := bb BKgb hb; have n0_ := bs HB hb; clear HB BKgp BKgv BKgr BKgb; have HB := n0_; clear n0_; have BKgp := n_gp; clear n_gp; have BKgv := n_gv; clear n_gv; have BKgr := n_gr; clear n_gr; have BKgb := n_gb; clear n_gb; clear hb; clear cgb_1 cgb_2; clear cgv_0 fgv_0 cgv_1 fgv_1 cgv_2 fgv_2; have cgv_0 : w4.cell? ⟨gv, 0, none⟩ = some (.int .u64 a1_0) := (blk_cell BKgv.out 0).trans rfl; have cgv_1 : w4.cell? ⟨gv, 1, none⟩ = some (.int .u64 a1_1) := (blk_cell BKgv.out 1).trans rfl; have cgv_2 : w4.cell? ⟨gv, 2, none⟩ = some (.int .u64 a1_2) := (blk_cell BKgv.out 2).trans rfl; have fgv_0 : w4.frozen? ⟨gv, 0, none⟩ = false := blk_frozen BKgv.out 0; have fgv_1 : w4.frozen? ⟨gv, 1, none⟩ = false := blk_frozen BKgv.out 1; have fgv_2 : w4.frozen? ⟨gv, 2, none⟩ = false := blk_frozen BKgv.out 2))
  clear cgv_0 fgv_0 cgv_1 fgv_1 cgv_2 fgv_2
  have n_gp := Aside0.mk (far3_ (a' := .int .u64 q1) (b' := .int .u64 q2) (c' := .int .u64 q3) BKgp.out NEgp_gv.out)
  have n_gr := Aside0.mk (far3_ (a' := .int .u64 q1) (b' := .int .u64 q2) (c' := .int .u64 q3) BKgr.out NEgv_gr.out.symm)
  have n_gb := Aside0.mk (far3_ (a' := .int .u64 q1) (b' := .int .u64 q2) (c' := .int .u64 q3) BKgb.out NEgv_gb.out.symm)
  have n_gv := Aside0.mk (put3_ (a' := .int .u64 q1) (b' := .int .u64 q2) (c' := .int .u64 q3) BKgv.out)
  have n0_ := Aside0.mk (set3_ (a' := .int .u64 q1) (b' := .int .u64 q2) (c' := .int .u64 q3) HB.out GEgv.out)
  clear BKgp BKgr BKgb BKgv HB
  have BKgp := n_gp
  have BKgr := n_gr
  have BKgb := n_gb
  have BKgv := n_gv
  have HB := n0_
  clear n_gp n_gr n_gb n_gv n0_
  generalize (((w4.setCell ⟨gv, 0, none⟩ (.int .u64 q1)).setCell ⟨gv, 1, none⟩ (.int .u64 q2)).setCell ⟨gv, 2, none⟩ (.int .u64 q3)) = w5 at *
  have cgb_1 : w5.cell? ⟨gb, 1, none⟩ = some (.func (.func 57) #[] #[]) := (blk_cell BKgb.out 1).trans rfl
  have cgb_2 : w5.cell? ⟨gb, 2, none⟩ = some (.func (.func 58) #[] #[]) := (blk_cell BKgb.out 2).trans rfl
  have cgv_0 : w5.cell? ⟨gv, 0, none⟩ = some (.int .u64 q1) := (blk_cell BKgv.out 0).trans rfl
  have cgv_1 : w5.cell? ⟨gv, 1, none⟩ = some (.int .u64 q2) := (blk_cell BKgv.out 1).trans rfl
  have cgv_2 : w5.cell? ⟨gv, 2, none⟩ = some (.int .u64 q3) := (blk_cell BKgv.out 2).trans rfl
  have fgv_0 : w5.frozen? ⟨gv, 0, none⟩ = false := blk_frozen BKgv.out 0
  have fgv_1 : w5.frozen? ⟨gv, 1, none⟩ = false := blk_frozen BKgv.out 1
  have fgv_2 : w5.frozen? ⟨gv, 2, none⟩ = false := blk_frozen BKgv.out 2
  have cgp_0 : w5.cell? ⟨gp, 0, none⟩ = some (.int .i64 1) := (blk_cell BKgp.out 0).trans rfl
  have cgp_1 : w5.cell? ⟨gp, 1, none⟩ = some (.int .u64 a0_1) := (blk_cell BKgp.out 1).trans rfl
  have cgp_2 : w5.cell? ⟨gp, 2, none⟩ = some (.int .u64 a0_2) := (blk_cell BKgp.out 2).trans rfl
  have cgp_3 : w5.cell? ⟨gp, 3, none⟩ = some (.int .u64 a0_3) := (blk_cell BKgp.out 3).trans rfl
  have cgp_4 : w5.cell? ⟨gp, 4, none⟩ = some (.int .u64 a0_4) := (blk_cell BKgp.out 4).trans rfl
  have fgp_0 : w5.frozen? ⟨gp, 0, none⟩ = false := blk_frozen BKgp.out 0
  have fgp_1 : w5.frozen? ⟨gp, 1, none⟩ = false := blk_frozen BKgp.out 1
  have fgp_2 : w5.frozen? ⟨gp, 2, none⟩ = false := blk_frozen BKgp.out 2
  have fgp_3 : w5.frozen? ⟨gp, 3, none⟩ = false := blk_frozen BKgp.out 3
  have fgp_4 : w5.frozen? ⟨gp, 4, none⟩ = false := blk_frozen BKgp.out 4
  go_upto_region 6 with (first | (go_at_call 58; refine (policy_rules_3.calls k 1 a0_1 a0_2 a0_3 a0_4 q1 q2 q3 a2 a3 m1 m2 m3 false _ HX2.out).mono ?_; rintro e w6 ⟨rfl, hb⟩; have n_gp := bb BKgp hb; have n_gv := bb BKgv hb; have n_gr := bb BKgr hb; have n_gb := bb BKgb hb; have n0_ := bs HB hb; clear HB BKgp BKgv BKgr BKgb; have HB := n0_; clear n0_; have BKgp := n_gp; clear n_gp; have BKgv := n_gv; clear n_gv; have BKgr := n_gr; clear n_gr; have BKgb := n_gb; clear n_gb; clear hb; clear cgb_1 cgb_2; clear cgv_0 fgv_0 cgv_1 fgv_1 cgv_2 fgv_2; clear cgp_0 fgp_0 cgp_1 fgp_1 cgp_2 fgp_2 cgp_3 fgp_3 cgp_4 fgp_4))
  have GEgn : Aside0 (w.heap.size ≤ w6.heap.size) := ⟨HB.out.size⟩
  have NEgp_gn : Aside0 (gp ≠ w6.heap.size) := ⟨Nat.ne_of_lt (blk_lt BKgp.out)⟩
  have NEgv_gn : Aside0 (gv ≠ w6.heap.size) := ⟨Nat.ne_of_lt (blk_lt BKgv.out)⟩
  have NEgr_gn : Aside0 (gr ≠ w6.heap.size) := ⟨Nat.ne_of_lt (blk_lt BKgr.out)⟩
  have NEgb_gn : Aside0 (gb ≠ w6.heap.size) := ⟨Nat.ne_of_lt (blk_lt BKgb.out)⟩
  have n_gp := Aside0.mk (blk_alloc BKgp.out (.cells #[.int .u64 m1, .int .u64 m2, .int .u64 m3] 40))
  have n_gv := Aside0.mk (blk_alloc BKgv.out (.cells #[.int .u64 m1, .int .u64 m2, .int .u64 m3] 40))
  have n_gr := Aside0.mk (blk_alloc BKgr.out (.cells #[.int .u64 m1, .int .u64 m2, .int .u64 m3] 40))
  have n_gb := Aside0.mk (blk_alloc BKgb.out (.cells #[.int .u64 m1, .int .u64 m2, .int .u64 m3] 40))
  have BKgn : Aside0 ((w6.alloc (.cells #[.int .u64 m1, .int .u64 m2, .int .u64 m3] 40)).heap[w6.heap.size]? = _) := ⟨blk_new _ _⟩
  have n0_ := Aside0.mk (below_alloc HB.out (.cells #[.int .u64 m1, .int .u64 m2, .int .u64 m3] 40))
  clear HB BKgp BKgv BKgr BKgb
  have HB := n0_
  clear n0_
  have BKgp := n_gp
  have BKgv := n_gv
  have BKgr := n_gr
  have BKgb := n_gb
  clear n_gp n_gv n_gr n_gb
  generalize (w6.alloc (.cells #[.int .u64 m1, .int .u64 m2, .int .u64 m3] 40)) = w7 at *
  generalize w6.heap.size = gn at *
  go_upto_region 8 with (fail)
  have SD : w7.drew.cell? ⟨gb, 3, none⟩ = some (.func (.func 60) #[] #[]) ∧ w7.drew.cell? ⟨gv, 0, none⟩ = some (.int .u64 q1) ∧ w7.drew.cell? ⟨gv, 1, none⟩ = some (.int .u64 q2) ∧ w7.drew.cell? ⟨gv, 2, none⟩ = some (.int .u64 q3) ∧ w7.drew.cell? ⟨gp, 0, none⟩ = some (.int .i64 1) ∧ w7.drew.cell? ⟨gp, 1, none⟩ = some (.int .u64 a0_1) ∧ w7.drew.cell? ⟨gp, 2, none⟩ = some (.int .u64 a0_2) ∧ w7.drew.cell? ⟨gp, 3, none⟩ = some (.int .u64 a0_3) ∧ w7.drew.cell? ⟨gp, 4, none⟩ = some (.int .u64 a0_4) := ⟨(blk_cell BKgb.out 3).trans rfl, (blk_cell BKgv.out 0).trans rfl, (blk_cell BKgv.out 1).trans rfl, (blk_cell BKgv.out 2).trans rfl, (blk_cell BKgp.out 0).trans rfl, (blk_cell BKgp.out 1).trans rfl, (blk_cell BKgp.out 2).trans rfl, (blk_cell BKgp.out 3).trans rfl, (blk_cell BKgp.out 4).trans rfl⟩
  go_region_held3 (fun w' => w'.cell? ⟨gb, 3, none⟩ = some (.func (.func 60) #[] #[]) ∧ w'.cell? ⟨gv, 0, none⟩ = some (.int .u64 q1) ∧ w'.cell? ⟨gv, 1, none⟩ = some (.int .u64 q2) ∧ w'.cell? ⟨gv, 2, none⟩ = some (.int .u64 q3) ∧ w'.cell? ⟨gp, 0, none⟩ = some (.int .i64 1) ∧ w'.cell? ⟨gp, 1, none⟩ = some (.int .u64 a0_1) ∧ w'.cell? ⟨gp, 2, none⟩ = some (.int .u64 a0_2) ∧ w'.cell? ⟨gp, 3, none⟩ = some (.int .u64 a0_3) ∧ w'.cell? ⟨gp, 4, none⟩ = some (.int .u64 a0_4)) (first | (with_reducible exact SD) | (with_reducible exact SD8) | (exact ⟨(blk_cell (far3_ BKgb.out NEgr_gb.out.symm) 3).trans rfl, (blk_cell (far3_ BKgv.out NEgv_gr.out) 0).trans rfl, (blk_cell (far3_ BKgv.out NEgv_gr.out) 1).trans rfl, (blk_cell (far3_ BKgv.out NEgv_gr.out) 2).trans rfl, (blk_cell (far3_ BKgp.out NEgp_gr.out) 0).trans rfl, (blk_cell (far3_ BKgp.out NEgp_gr.out) 1).trans rfl, (blk_cell (far3_ BKgp.out NEgp_gr.out) 2).trans rfl, (blk_cell (far3_ BKgp.out NEgp_gr.out) 3).trans rfl, (blk_cell (far3_ BKgp.out NEgp_gr.out) 4).trans rfl⟩))
   ((go_at_call 60; refine (policy_rules_4.calls k 1 a0_1 a0_2 a0_3 a0_4 q1 q2 q3 a2 a3 x _ HX3.out).mono ?_; rintro e w8 ⟨rfl, hb⟩; have n_gp := bb BKgp hb; have n_gv := bb BKgv hb; have n_gr := bb BKgr hb; have n_gb := bb BKgb hb; have n_gn := bb BKgn hb; have n0_ := bs HB hb; clear HB BKgp BKgv BKgr BKgb BKgn; have HB := n0_; clear n0_; have BKgp := n_gp; clear n_gp; have BKgv := n_gv; clear n_gv; have BKgr := n_gr; clear n_gr; have BKgb := n_gb; clear n_gb; have BKgn := n_gn; clear n_gn; clear hb; have SD8 : w8.cell? ⟨gb, 3, none⟩ = some (.func (.func 60) #[] #[]) ∧ w8.cell? ⟨gv, 0, none⟩ = some (.int .u64 q1) ∧ w8.cell? ⟨gv, 1, none⟩ = some (.int .u64 q2) ∧ w8.cell? ⟨gv, 2, none⟩ = some (.int .u64 q3) ∧ w8.cell? ⟨gp, 0, none⟩ = some (.int .i64 1) ∧ w8.cell? ⟨gp, 1, none⟩ = some (.int .u64 a0_1) ∧ w8.cell? ⟨gp, 2, none⟩ = some (.int .u64 a0_2) ∧ w8.cell? ⟨gp, 3, none⟩ = some (.int .u64 a0_3) ∧ w8.cell? ⟨gp, 4, none⟩ = some (.int .u64 a0_4) := ⟨(blk_cell BKgb.out 3).trans rfl, (blk_cell BKgv.out 0).trans rfl, (blk_cell BKgv.out 1).trans rfl, (blk_cell BKgv.out 2).trans rfl, (blk_cell BKgp.out 0).trans rfl, (blk_cell BKgp.out 1).trans rfl, (blk_cell BKgp.out 2).trans rfl, (blk_cell BKgp.out 3).trans rfl, (blk_cell BKgp.out 4).trans rfl⟩; have cgr_0 : w8.cell? ⟨gr, 0, none⟩ = some (.int .u64 0) := (blk_cell BKgr.out 0).trans rfl; have cgr_1 : w8.cell? ⟨gr, 1, none⟩ = some (.int .u64 0) := (blk_cell BKgr.out 1).trans rfl; have cgr_2 : w8.cell? ⟨gr, 2, none⟩ = some (.int .u64 0) := (blk_cell BKgr.out 2).trans rfl; have fgr_0 : w8.frozen? ⟨gr, 0, none⟩ = false := blk_frozen BKgr.out 0; have fgr_1 : w8.frozen? ⟨gr, 1, none⟩ = false := blk_frozen BKgr.out 1; have fgr_2 : w8.frozen? ⟨gr, 2, none⟩ = false := blk_frozen BKgr.out 2))
  go_wp2_with (fail)
  with_reducible refine bodyPost_ret (results_ctt rfl _ _ gr 40 #[.int .u64 q1, .int .u64 q2, .int .u64 q3] (0, 0) _ rfl (put3_ BKgr.out) hu29 rfl (by kernel_rfl)) rfl ?_
  exact ⟨rfl, set3_ HB.out GEgr.out⟩
set_option maxHeartbeats 1600000 in
set_option maxRecDepth 100000 in
theorem policy_Admit.flow_no (a0_1 a0_2 a0_3 a0_4 : Int) (a1_0 a1_1 a1_2 a2 a3 : Int) (w : World) (h : policy_rules_1.f 1 a0_1 a0_2 a0_3 a0_4 = some false) :
    Calls Try.prog 25 #[.agg #[.int .i64 1, .int .u64 a0_1, .int .u64 a0_2, .int .u64 a0_3, .int .u64 a0_4], .agg #[.int .u64 a1_0, .int .u64 a1_1, .int .u64 a1_2], .int .u64 a2, .int .u64 a3] w fun e w' => e = .returned (.tuple #[.agg #[.int .u64 0, .int .u64 0, .int .u64 0], .bool false, .int .u64 18446744073709551615]) ∧ Below w.heap.size w w' := by
  have HB := Aside0.mk (Below.refl w.heap.size w)
  have H := Aside0.mk h
  clear h
  have hu29 := Try.underlying40
  go_enter Try.func25, Try.ntmps25
  go_upto_region 2 with (first | ((with_reducible refine gate_dst (N := 4) rfl ?_); refine bx 4 #[.int .i64 1, .int .u64 a0_1, .int .u64 a0_2, .int .u64 a0_3, .int .u64 a0_4] 24 ?_; intro gp hg w_gp hbox hb; have n0_ := bs HB hb; have GEgp := sz HB hg; clear HB ; have HB := n0_; have BKgp := Aside0.mk hbox; clear n0_ hb hbox hg) | ((with_reducible refine gate_dst (N := 5) rfl ?_); refine bx 5 #[.int .u64 a1_0, .int .u64 a1_1, .int .u64 a1_2] 40 ?_; intro gv hg w_gv hbox hb; have n_gp := bb BKgp hb; have e_gp := nl BKgp hg; have n0_ := bs HB hb; have GEgv := sz HB hg; clear HB BKgp; have HB := n0_; have BKgp := n_gp; have NEgp_gv := e_gp; clear n_gp e_gp; have BKgv := Aside0.mk hbox; clear n0_ hb hbox hg) | ((with_reducible refine gate_dst (N := 8) rfl ?_); refine bx 8 #[.int .u64 0, .int .u64 0, .int .u64 0] 40 ?_; intro gr hg w_gr hbox hb; have n_gp := bb BKgp hb; have e_gp := nl BKgp hg; have n_gv := bb BKgv hb; have e_gv := nl BKgv hg; have n0_ := bs HB hb; have GEgr := sz HB hg; clear HB BKgp BKgv; have HB := n0_; have BKgp := n_gp; have NEgp_gr := e_gp; clear n_gp e_gp; have BKgv := n_gv; have NEgv_gr := e_gv; clear n_gv e_gv; have BKgr := Aside0.mk hbox; clear n0_ hb hbox hg; have cgp_0 : w_gr.cell? ⟨gp, 0, none⟩ = some (.int .i64 1) := (blk_cell BKgp.out 0).trans rfl; have cgp_1 : w_gr.cell? ⟨gp, 1, none⟩ = some (.int .u64 a0_1) := (blk_cell BKgp.out 1).trans rfl; have cgp_2 : w_gr.cell? ⟨gp, 2, none⟩ = some (.int .u64 a0_2) := (blk_cell BKgp.out 2).trans rfl; have cgp_3 : w_gr.cell? ⟨gp, 3, none⟩ = some (.int .u64 a0_3) := (blk_cell BKgp.out 3).trans rfl; have cgp_4 : w_gr.cell? ⟨gp, 4, none⟩ = some (.int .u64 a0_4) := (blk_cell BKgp.out 4).trans rfl) | (go_at_call 37; refine (policy_of.flow _ _ _ _ false _ H.out).mono ?_; rintro e w2 ⟨rfl, hb⟩; have n_gp := bb BKgp hb; have n_gv := bb BKgv hb; have n_gr := bb BKgr hb; have n0_ := bs HB hb; clear HB BKgp BKgv BKgr; have HB := n0_; clear n0_; have BKgp := n_gp; clear n_gp; have BKgv := n_gv; clear n_gv; have BKgr := n_gr; clear n_gr; clear hb))
  have GEgb : Aside0 (w.heap.size ≤ w2.heap.size) := ⟨HB.out.size⟩
  have NEgp_gb : Aside0 (gp ≠ w2.heap.size) := ⟨Nat.ne_of_lt (blk_lt BKgp.out)⟩
  have NEgv_gb : Aside0 (gv ≠ w2.heap.size) := ⟨Nat.ne_of_lt (blk_lt BKgv.out)⟩
  have NEgr_gb : Aside0 (gr ≠ w2.heap.size) := ⟨Nat.ne_of_lt (blk_lt BKgr.out)⟩
  have n_gp := Aside0.mk (blk_alloc BKgp.out (.cells #[.func (.func 56) #[] #[], .func (.func 57) #[] #[], .func (.func 58) #[] #[], .func (.func 60) #[] #[], .func (.func 62) #[] #[], .func (.func 64) #[] #[]] 102))
  have n_gv := Aside0.mk (blk_alloc BKgv.out (.cells #[.func (.func 56) #[] #[], .func (.func 57) #[] #[], .func (.func 58) #[] #[], .func (.func 60) #[] #[], .func (.func 62) #[] #[], .func (.func 64) #[] #[]] 102))
  have n_gr := Aside0.mk (blk_alloc BKgr.out (.cells #[.func (.func 56) #[] #[], .func (.func 57) #[] #[], .func (.func 58) #[] #[], .func (.func 60) #[] #[], .func (.func 62) #[] #[], .func (.func 64) #[] #[]] 102))
  have BKgb : Aside0 ((w2.alloc (.cells #[.func (.func 56) #[] #[], .func (.func 57) #[] #[], .func (.func 58) #[] #[], .func (.func 60) #[] #[], .func (.func 62) #[] #[], .func (.func 64) #[] #[]] 102)).heap[w2.heap.size]? = _) := ⟨blk_new _ _⟩
  have n0_ := Aside0.mk (below_alloc HB.out (.cells #[.func (.func 56) #[] #[], .func (.func 57) #[] #[], .func (.func 58) #[] #[], .func (.func 60) #[] #[], .func (.func 62) #[] #[], .func (.func 64) #[] #[]] 102))
  clear HB BKgp BKgv BKgr
  have HB := n0_
  clear n0_
  have BKgp := n_gp
  have BKgv := n_gv
  have BKgr := n_gr
  clear n_gp n_gv n_gr
  generalize (w2.alloc (.cells #[.func (.func 56) #[] #[], .func (.func 57) #[] #[], .func (.func 58) #[] #[], .func (.func 60) #[] #[], .func (.func 62) #[] #[], .func (.func 64) #[] #[]] 102)) = w3 at *
  generalize w2.heap.size = gb at *
  have cgr_0 : w3.cell? ⟨gr, 0, none⟩ = some (.int .u64 0) := (blk_cell BKgr.out 0).trans rfl
  have cgr_1 : w3.cell? ⟨gr, 1, none⟩ = some (.int .u64 0) := (blk_cell BKgr.out 1).trans rfl
  have cgr_2 : w3.cell? ⟨gr, 2, none⟩ = some (.int .u64 0) := (blk_cell BKgr.out 2).trans rfl
  have fgr_0 : w3.frozen? ⟨gr, 0, none⟩ = false := blk_frozen BKgr.out 0
  have fgr_1 : w3.frozen? ⟨gr, 1, none⟩ = false := blk_frozen BKgr.out 1
  have fgr_2 : w3.frozen? ⟨gr, 2, none⟩ = false := blk_frozen BKgr.out 2
  go_wp2_with (fail)
  with_reducible refine bodyPost_ret (results_ctt rfl _ _ gr 40 #[.int .u64 0, .int .u64 0, .int .u64 0] (0, 0) _ rfl (put3_ BKgr.out) hu29 rfl (by kernel_rfl)) rfl ?_
  exact ⟨rfl, set3_ HB.out GEgr.out⟩
set_option maxHeartbeats 1600000 in
set_option maxRecDepth 100000 in
theorem policy_Admit.grid_a (a0_1 a0_2 a0_3 a0_4 : Int) (k : Nat) (a1_0 a1_1 a1_2 a2 a3 : Int) (q1 q2 q3 m1 m2 m3 : Int) (w : World) (h : policy_rules_7.f 2 a0_1 a0_2 a0_3 a0_4 = some true) (h1 : policy_rules_8.f a1_0 a1_1 a1_2 = some (q1, q2, q3)) (h2 : policy_rules_9.f k 2 a0_1 a0_2 a0_3 a0_4 q1 q2 q3 a2 a3 = some (m1, m2, m3, true)) :
    Calls Try.prog 25 #[.agg #[.int .i64 2, .int .u64 a0_1, .int .u64 a0_2, .int .u64 a0_3, .int .u64 a0_4], .agg #[.int .u64 a1_0, .int .u64 a1_1, .int .u64 a1_2], .int .u64 a2, .int .u64 a3] w fun e w' => e = .returned (.tuple #[.agg #[.int .u64 m1, .int .u64 m2, .int .u64 m3], .bool true, .int .u64 0]) ∧ Below w.heap.size w w' := by
  have HB := Aside0.mk (Below.refl w.heap.size w)
  have H := Aside0.mk h
  clear h
  have HX1 := Aside0.mk h1
  clear h1
  have HX2 := Aside0.mk h2
  clear h2
  have hu29 := Try.underlying40
  go_enter Try.func25, Try.ntmps25
  go_upto_region 2 with (first | ((with_reducible refine gate_dst (N := 4) rfl ?_); refine bx 4 #[.int .i64 2, .int .u64 a0_1, .int .u64 a0_2, .int .u64 a0_3, .int .u64 a0_4] 24 ?_; intro gp hg w_gp hbox hb; have n0_ := bs HB hb; have GEgp := sz HB hg; clear HB ; have HB := n0_; have BKgp := Aside0.mk hbox; clear n0_ hb hbox hg) | ((with_reducible refine gate_dst (N := 5) rfl ?_); refine bx 5 #[.int .u64 a1_0, .int .u64 a1_1, .int .u64 a1_2] 40 ?_; intro gv hg w_gv hbox hb; have n_gp := bb BKgp hb; have e_gp := nl BKgp hg; have n0_ := bs HB hb; have GEgv := sz HB hg; clear HB BKgp; have HB := n0_; have BKgp := n_gp; have NEgp_gv := e_gp; clear n_gp e_gp; have BKgv := Aside0.mk hbox; clear n0_ hb hbox hg) | ((with_reducible refine gate_dst (N := 8) rfl ?_); refine bx 8 #[.int .u64 0, .int .u64 0, .int .u64 0] 40 ?_; intro gr hg w_gr hbox hb; have n_gp := bb BKgp hb; have e_gp := nl BKgp hg; have n_gv := bb BKgv hb; have e_gv := nl BKgv hg; have n0_ := bs HB hb; have GEgr := sz HB hg; clear HB BKgp BKgv; have HB := n0_; have BKgp := n_gp; have NEgp_gr := e_gp; clear n_gp e_gp; have BKgv := n_gv; have NEgv_gr := e_gv; clear n_gv e_gv; have BKgr := Aside0.mk hbox; clear n0_ hb hbox hg; have cgp_0 : w_gr.cell? ⟨gp, 0, none⟩ = some (.int .i64 2) := (blk_cell BKgp.out 0).trans rfl; have cgp_1 : w_gr.cell? ⟨gp, 1, none⟩ = some (.int .u64 a0_1) := (blk_cell BKgp.out 1).trans rfl; have cgp_2 : w_gr.cell? ⟨gp, 2, none⟩ = some (.int .u64 a0_2) := (blk_cell BKgp.out 2).trans rfl; have cgp_3 : w_gr.cell? ⟨gp, 3, none⟩ = some (.int .u64 a0_3) := (blk_cell BKgp.out 3).trans rfl; have cgp_4 : w_gr.cell? ⟨gp, 4, none⟩ = some (.int .u64 a0_4) := (blk_cell BKgp.out 4).trans rfl) | (go_at_call 37; refine (policy_of.grid _ _ _ _ true _ H.out).mono ?_; rintro e w2 ⟨rfl, hb⟩; have n_gp := bb BKgp hb; have n_gv := bb BKgv hb; have n_gr := bb BKgr hb; have n0_ := bs HB hb; clear HB BKgp BKgv BKgr; have HB := n0_; clear n0_; have BKgp := n_gp; clear n_gp; have BKgv := n_gv; clear n_gv; have BKgr := n_gr; clear n_gr; clear hb))
  have GEgb : Aside0 (w.heap.size ≤ w2.heap.size) := ⟨HB.out.size⟩
  have NEgp_gb : Aside0 (gp ≠ w2.heap.size) := ⟨Nat.ne_of_lt (blk_lt BKgp.out)⟩
  have NEgv_gb : Aside0 (gv ≠ w2.heap.size) := ⟨Nat.ne_of_lt (blk_lt BKgv.out)⟩
  have NEgr_gb : Aside0 (gr ≠ w2.heap.size) := ⟨Nat.ne_of_lt (blk_lt BKgr.out)⟩
  have n_gp := Aside0.mk (blk_alloc BKgp.out (.cells #[.func (.func 65) #[] #[], .func (.func 66) #[] #[], .func (.func 67) #[] #[], .func (.func 69) #[] #[], .func (.func 71) #[] #[], .func (.func 73) #[] #[]] 102))
  have n_gv := Aside0.mk (blk_alloc BKgv.out (.cells #[.func (.func 65) #[] #[], .func (.func 66) #[] #[], .func (.func 67) #[] #[], .func (.func 69) #[] #[], .func (.func 71) #[] #[], .func (.func 73) #[] #[]] 102))
  have n_gr := Aside0.mk (blk_alloc BKgr.out (.cells #[.func (.func 65) #[] #[], .func (.func 66) #[] #[], .func (.func 67) #[] #[], .func (.func 69) #[] #[], .func (.func 71) #[] #[], .func (.func 73) #[] #[]] 102))
  have BKgb : Aside0 ((w2.alloc (.cells #[.func (.func 65) #[] #[], .func (.func 66) #[] #[], .func (.func 67) #[] #[], .func (.func 69) #[] #[], .func (.func 71) #[] #[], .func (.func 73) #[] #[]] 102)).heap[w2.heap.size]? = _) := ⟨blk_new _ _⟩
  have n0_ := Aside0.mk (below_alloc HB.out (.cells #[.func (.func 65) #[] #[], .func (.func 66) #[] #[], .func (.func 67) #[] #[], .func (.func 69) #[] #[], .func (.func 71) #[] #[], .func (.func 73) #[] #[]] 102))
  clear HB BKgp BKgv BKgr
  have HB := n0_
  clear n0_
  have BKgp := n_gp
  have BKgv := n_gv
  have BKgr := n_gr
  clear n_gp n_gv n_gr
  generalize (w2.alloc (.cells #[.func (.func 65) #[] #[], .func (.func 66) #[] #[], .func (.func 67) #[] #[], .func (.func 69) #[] #[], .func (.func 71) #[] #[], .func (.func 73) #[] #[]] 102)) = w3 at *
  generalize w2.heap.size = gb at *
  have cgb_1 : w3.cell? ⟨gb, 1, none⟩ = some (.func (.func 66) #[] #[]) := (blk_cell BKgb.out 1).trans rfl
  have cgb_2 : w3.cell? ⟨gb, 2, none⟩ = some (.func (.func 67) #[] #[]) := (blk_cell BKgb.out 2).trans rfl
  have cgv_0 : w3.cell? ⟨gv, 0, none⟩ = some (.int .u64 a1_0) := (blk_cell BKgv.out 0).trans rfl
  have cgv_1 : w3.cell? ⟨gv, 1, none⟩ = some (.int .u64 a1_1) := (blk_cell BKgv.out 1).trans rfl
  have cgv_2 : w3.cell? ⟨gv, 2, none⟩ = some (.int .u64 a1_2) := (blk_cell BKgv.out 2).trans rfl
  have fgv_0 : w3.frozen? ⟨gv, 0, none⟩ = false := blk_frozen BKgv.out 0
  have fgv_1 : w3.frozen? ⟨gv, 1, none⟩ = false := blk_frozen BKgv.out 1
  have fgv_2 : w3.frozen? ⟨gv, 2, none⟩ = false := blk_frozen BKgv.out 2
  go_upto_region 5 with (first | (go_at_call 66; refine (policy_rules_8.calls a1_0 a1_1 a1_2 q1 q2 q3 _ HX1.out).mono ?_; rintro e w4 ⟨rfl, hb⟩; have n_gp := bb BKgp hb; have n_gv := bb BKgv hb; have n_gr := bb BKgr hb; have n_gb := bb BKgb hb; have n0_ := bs HB hb; clear HB BKgp BKgv BKgr BKgb; have HB := n0_; clear n0_; have BKgp := n_gp; clear n_gp; have BKgv := n_gv; clear n_gv; have BKgr := n_gr; clear n_gr; have BKgb := n_gb; clear n_gb; clear hb; clear cgb_1 cgb_2; clear cgv_0 fgv_0 cgv_1 fgv_1 cgv_2 fgv_2; have cgv_0 : w4.cell? ⟨gv, 0, none⟩ = some (.int .u64 a1_0) := (blk_cell BKgv.out 0).trans rfl; have cgv_1 : w4.cell? ⟨gv, 1, none⟩ = some (.int .u64 a1_1) := (blk_cell BKgv.out 1).trans rfl; have cgv_2 : w4.cell? ⟨gv, 2, none⟩ = some (.int .u64 a1_2) := (blk_cell BKgv.out 2).trans rfl; have fgv_0 : w4.frozen? ⟨gv, 0, none⟩ = false := blk_frozen BKgv.out 0; have fgv_1 : w4.frozen? ⟨gv, 1, none⟩ = false := blk_frozen BKgv.out 1; have fgv_2 : w4.frozen? ⟨gv, 2, none⟩ = false := blk_frozen BKgv.out 2))
  clear cgv_0 fgv_0 cgv_1 fgv_1 cgv_2 fgv_2
  have n_gp := Aside0.mk (far3_ (a' := .int .u64 q1) (b' := .int .u64 q2) (c' := .int .u64 q3) BKgp.out NEgp_gv.out)
  have n_gr := Aside0.mk (far3_ (a' := .int .u64 q1) (b' := .int .u64 q2) (c' := .int .u64 q3) BKgr.out NEgv_gr.out.symm)
  have n_gb := Aside0.mk (far3_ (a' := .int .u64 q1) (b' := .int .u64 q2) (c' := .int .u64 q3) BKgb.out NEgv_gb.out.symm)
  have n_gv := Aside0.mk (put3_ (a' := .int .u64 q1) (b' := .int .u64 q2) (c' := .int .u64 q3) BKgv.out)
  have n0_ := Aside0.mk (set3_ (a' := .int .u64 q1) (b' := .int .u64 q2) (c' := .int .u64 q3) HB.out GEgv.out)
  clear BKgp BKgr BKgb BKgv HB
  have BKgp := n_gp
  have BKgr := n_gr
  have BKgb := n_gb
  have BKgv := n_gv
  have HB := n0_
  clear n_gp n_gr n_gb n_gv n0_
  generalize (((w4.setCell ⟨gv, 0, none⟩ (.int .u64 q1)).setCell ⟨gv, 1, none⟩ (.int .u64 q2)).setCell ⟨gv, 2, none⟩ (.int .u64 q3)) = w5 at *
  have cgb_1 : w5.cell? ⟨gb, 1, none⟩ = some (.func (.func 66) #[] #[]) := (blk_cell BKgb.out 1).trans rfl
  have cgb_2 : w5.cell? ⟨gb, 2, none⟩ = some (.func (.func 67) #[] #[]) := (blk_cell BKgb.out 2).trans rfl
  have cgv_0 : w5.cell? ⟨gv, 0, none⟩ = some (.int .u64 q1) := (blk_cell BKgv.out 0).trans rfl
  have cgv_1 : w5.cell? ⟨gv, 1, none⟩ = some (.int .u64 q2) := (blk_cell BKgv.out 1).trans rfl
  have cgv_2 : w5.cell? ⟨gv, 2, none⟩ = some (.int .u64 q3) := (blk_cell BKgv.out 2).trans rfl
  have fgv_0 : w5.frozen? ⟨gv, 0, none⟩ = false := blk_frozen BKgv.out 0
  have fgv_1 : w5.frozen? ⟨gv, 1, none⟩ = false := blk_frozen BKgv.out 1
  have fgv_2 : w5.frozen? ⟨gv, 2, none⟩ = false := blk_frozen BKgv.out 2
  have cgp_0 : w5.cell? ⟨gp, 0, none⟩ = some (.int .i64 2) := (blk_cell BKgp.out 0).trans rfl
  have cgp_1 : w5.cell? ⟨gp, 1, none⟩ = some (.int .u64 a0_1) := (blk_cell BKgp.out 1).trans rfl
  have cgp_2 : w5.cell? ⟨gp, 2, none⟩ = some (.int .u64 a0_2) := (blk_cell BKgp.out 2).trans rfl
  have cgp_3 : w5.cell? ⟨gp, 3, none⟩ = some (.int .u64 a0_3) := (blk_cell BKgp.out 3).trans rfl
  have cgp_4 : w5.cell? ⟨gp, 4, none⟩ = some (.int .u64 a0_4) := (blk_cell BKgp.out 4).trans rfl
  have fgp_0 : w5.frozen? ⟨gp, 0, none⟩ = false := blk_frozen BKgp.out 0
  have fgp_1 : w5.frozen? ⟨gp, 1, none⟩ = false := blk_frozen BKgp.out 1
  have fgp_2 : w5.frozen? ⟨gp, 2, none⟩ = false := blk_frozen BKgp.out 2
  have fgp_3 : w5.frozen? ⟨gp, 3, none⟩ = false := blk_frozen BKgp.out 3
  have fgp_4 : w5.frozen? ⟨gp, 4, none⟩ = false := blk_frozen BKgp.out 4
  go_upto_region 6 with (first | (go_at_call 67; refine (policy_rules_9.calls k 2 a0_1 a0_2 a0_3 a0_4 q1 q2 q3 a2 a3 m1 m2 m3 true _ HX2.out).mono ?_; rintro e w6 ⟨rfl, hb⟩; have n_gp := bb BKgp hb; have n_gv := bb BKgv hb; have n_gr := bb BKgr hb; have n_gb := bb BKgb hb; have n0_ := bs HB hb; clear HB BKgp BKgv BKgr BKgb; have HB := n0_; clear n0_; have BKgp := n_gp; clear n_gp; have BKgv := n_gv; clear n_gv; have BKgr := n_gr; clear n_gr; have BKgb := n_gb; clear n_gb; clear hb; clear cgb_1 cgb_2; clear cgv_0 fgv_0 cgv_1 fgv_1 cgv_2 fgv_2; clear cgp_0 fgp_0 cgp_1 fgp_1 cgp_2 fgp_2 cgp_3 fgp_3 cgp_4 fgp_4))
  have GEgn : Aside0 (w.heap.size ≤ w6.heap.size) := ⟨HB.out.size⟩
  have NEgp_gn : Aside0 (gp ≠ w6.heap.size) := ⟨Nat.ne_of_lt (blk_lt BKgp.out)⟩
  have NEgv_gn : Aside0 (gv ≠ w6.heap.size) := ⟨Nat.ne_of_lt (blk_lt BKgv.out)⟩
  have NEgr_gn : Aside0 (gr ≠ w6.heap.size) := ⟨Nat.ne_of_lt (blk_lt BKgr.out)⟩
  have NEgb_gn : Aside0 (gb ≠ w6.heap.size) := ⟨Nat.ne_of_lt (blk_lt BKgb.out)⟩
  have n_gp := Aside0.mk (blk_alloc BKgp.out (.cells #[.int .u64 m1, .int .u64 m2, .int .u64 m3] 40))
  have n_gv := Aside0.mk (blk_alloc BKgv.out (.cells #[.int .u64 m1, .int .u64 m2, .int .u64 m3] 40))
  have n_gr := Aside0.mk (blk_alloc BKgr.out (.cells #[.int .u64 m1, .int .u64 m2, .int .u64 m3] 40))
  have n_gb := Aside0.mk (blk_alloc BKgb.out (.cells #[.int .u64 m1, .int .u64 m2, .int .u64 m3] 40))
  have BKgn : Aside0 ((w6.alloc (.cells #[.int .u64 m1, .int .u64 m2, .int .u64 m3] 40)).heap[w6.heap.size]? = _) := ⟨blk_new _ _⟩
  have n0_ := Aside0.mk (below_alloc HB.out (.cells #[.int .u64 m1, .int .u64 m2, .int .u64 m3] 40))
  clear HB BKgp BKgv BKgr BKgb
  have HB := n0_
  clear n0_
  have BKgp := n_gp
  have BKgv := n_gv
  have BKgr := n_gr
  have BKgb := n_gb
  clear n_gp n_gv n_gr n_gb
  generalize (w6.alloc (.cells #[.int .u64 m1, .int .u64 m2, .int .u64 m3] 40)) = w7 at *
  generalize w6.heap.size = gn at *
  have cgn_0 : w7.cell? ⟨gn, 0, none⟩ = some (.int .u64 m1) := (blk_cell BKgn.out 0).trans rfl
  have cgn_1 : w7.cell? ⟨gn, 1, none⟩ = some (.int .u64 m2) := (blk_cell BKgn.out 1).trans rfl
  have cgn_2 : w7.cell? ⟨gn, 2, none⟩ = some (.int .u64 m3) := (blk_cell BKgn.out 2).trans rfl
  have fgn_0 : w7.frozen? ⟨gn, 0, none⟩ = false := blk_frozen BKgn.out 0
  have fgn_1 : w7.frozen? ⟨gn, 1, none⟩ = false := blk_frozen BKgn.out 1
  have fgn_2 : w7.frozen? ⟨gn, 2, none⟩ = false := blk_frozen BKgn.out 2
  have cgr_0 : w7.cell? ⟨gr, 0, none⟩ = some (.int .u64 0) := (blk_cell BKgr.out 0).trans rfl
  have cgr_1 : w7.cell? ⟨gr, 1, none⟩ = some (.int .u64 0) := (blk_cell BKgr.out 1).trans rfl
  have cgr_2 : w7.cell? ⟨gr, 2, none⟩ = some (.int .u64 0) := (blk_cell BKgr.out 2).trans rfl
  have fgr_0 : w7.frozen? ⟨gr, 0, none⟩ = false := blk_frozen BKgr.out 0
  have fgr_1 : w7.frozen? ⟨gr, 1, none⟩ = false := blk_frozen BKgr.out 1
  have fgr_2 : w7.frozen? ⟨gr, 2, none⟩ = false := blk_frozen BKgr.out 2
  go_wp2_with (fail)
  with_reducible refine bodyPost_ret (results_ctt rfl _ _ gr 40 #[.int .u64 m1, .int .u64 m2, .int .u64 m3] (0, 0) _ rfl (put3_ BKgr.out) hu29 rfl (by kernel_rfl)) rfl ?_
  exact ⟨rfl, set3_ HB.out GEgr.out⟩
set_option maxHeartbeats 1600000 in
set_option maxRecDepth 100000 in
theorem policy_Admit.grid_b (a0_1 a0_2 a0_3 a0_4 : Int) (k : Nat) (a1_0 a1_1 a1_2 a2 a3 : Int) (q1 q2 q3 m1 m2 m3 x : Int) (w : World) (h : policy_rules_7.f 2 a0_1 a0_2 a0_3 a0_4 = some true) (h1 : policy_rules_8.f a1_0 a1_1 a1_2 = some (q1, q2, q3)) (h2 : policy_rules_9.f k 2 a0_1 a0_2 a0_3 a0_4 q1 q2 q3 a2 a3 = some (m1, m2, m3, false)) (h3 : policy_rules_10.f k 2 a0_1 a0_2 a0_3 a0_4 q1 q2 q3 a2 a3 = some x) :
    Calls Try.prog 25 #[.agg #[.int .i64 2, .int .u64 a0_1, .int .u64 a0_2, .int .u64 a0_3, .int .u64 a0_4], .agg #[.int .u64 a1_0, .int .u64 a1_1, .int .u64 a1_2], .int .u64 a2, .int .u64 a3] w fun e w' => e = .returned (.tuple #[.agg #[.int .u64 q1, .int .u64 q2, .int .u64 q3], .bool false, .int .u64 x]) ∧ Below w.heap.size w w' := by
  have HB := Aside0.mk (Below.refl w.heap.size w)
  have H := Aside0.mk h
  clear h
  have HX1 := Aside0.mk h1
  clear h1
  have HX2 := Aside0.mk h2
  clear h2
  have HX3 := Aside0.mk h3
  clear h3
  have hu29 := Try.underlying40
  go_enter Try.func25, Try.ntmps25
  go_upto_region 2 with (first | ((with_reducible refine gate_dst (N := 4) rfl ?_); refine bx 4 #[.int .i64 2, .int .u64 a0_1, .int .u64 a0_2, .int .u64 a0_3, .int .u64 a0_4] 24 ?_; intro gp hg w_gp hbox hb; have n0_ := bs HB hb; have GEgp := sz HB hg; clear HB ; have HB := n0_; have BKgp := Aside0.mk hbox; clear n0_ hb hbox hg) | ((with_reducible refine gate_dst (N := 5) rfl ?_); refine bx 5 #[.int .u64 a1_0, .int .u64 a1_1, .int .u64 a1_2] 40 ?_; intro gv hg w_gv hbox hb; have n_gp := bb BKgp hb; have e_gp := nl BKgp hg; have n0_ := bs HB hb; have GEgv := sz HB hg; clear HB BKgp; have HB := n0_; have BKgp := n_gp; have NEgp_gv := e_gp; clear n_gp e_gp; have BKgv := Aside0.mk hbox; clear n0_ hb hbox hg) | ((with_reducible refine gate_dst (N := 8) rfl ?_); refine bx 8 #[.int .u64 0, .int .u64 0, .int .u64 0] 40 ?_; intro gr hg w_gr hbox hb; have n_gp := bb BKgp hb; have e_gp := nl BKgp hg; have n_gv := bb BKgv hb; have e_gv := nl BKgv hg; have n0_ := bs HB hb; have GEgr := sz HB hg; clear HB BKgp BKgv; have HB := n0_; have BKgp := n_gp; have NEgp_gr := e_gp; clear n_gp e_gp; have BKgv := n_gv; have NEgv_gr := e_gv; clear n_gv e_gv; have BKgr := Aside0.mk hbox; clear n0_ hb hbox hg; have cgp_0 : w_gr.cell? ⟨gp, 0, none⟩ = some (.int .i64 2) := (blk_cell BKgp.out 0).trans rfl; have cgp_1 : w_gr.cell? ⟨gp, 1, none⟩ = some (.int .u64 a0_1) := (blk_cell BKgp.out 1).trans rfl; have cgp_2 : w_gr.cell? ⟨gp, 2, none⟩ = some (.int .u64 a0_2) := (blk_cell BKgp.out 2).trans rfl; have cgp_3 : w_gr.cell? ⟨gp, 3, none⟩ = some (.int .u64 a0_3) := (blk_cell BKgp.out 3).trans rfl; have cgp_4 : w_gr.cell? ⟨gp, 4, none⟩ = some (.int .u64 a0_4) := (blk_cell BKgp.out 4).trans rfl) | (go_at_call 37; refine (policy_of.grid _ _ _ _ true _ H.out).mono ?_; rintro e w2 ⟨rfl, hb⟩; have n_gp := bb BKgp hb; have n_gv := bb BKgv hb; have n_gr := bb BKgr hb; have n0_ := bs HB hb; clear HB BKgp BKgv BKgr; have HB := n0_; clear n0_; have BKgp := n_gp; clear n_gp; have BKgv := n_gv; clear n_gv; have BKgr := n_gr; clear n_gr; clear hb))
  have GEgb : Aside0 (w.heap.size ≤ w2.heap.size) := ⟨HB.out.size⟩
  have NEgp_gb : Aside0 (gp ≠ w2.heap.size) := ⟨Nat.ne_of_lt (blk_lt BKgp.out)⟩
  have NEgv_gb : Aside0 (gv ≠ w2.heap.size) := ⟨Nat.ne_of_lt (blk_lt BKgv.out)⟩
  have NEgr_gb : Aside0 (gr ≠ w2.heap.size) := ⟨Nat.ne_of_lt (blk_lt BKgr.out)⟩
  have n_gp := Aside0.mk (blk_alloc BKgp.out (.cells #[.func (.func 65) #[] #[], .func (.func 66) #[] #[], .func (.func 67) #[] #[], .func (.func 69) #[] #[], .func (.func 71) #[] #[], .func (.func 73) #[] #[]] 102))
  have n_gv := Aside0.mk (blk_alloc BKgv.out (.cells #[.func (.func 65) #[] #[], .func (.func 66) #[] #[], .func (.func 67) #[] #[], .func (.func 69) #[] #[], .func (.func 71) #[] #[], .func (.func 73) #[] #[]] 102))
  have n_gr := Aside0.mk (blk_alloc BKgr.out (.cells #[.func (.func 65) #[] #[], .func (.func 66) #[] #[], .func (.func 67) #[] #[], .func (.func 69) #[] #[], .func (.func 71) #[] #[], .func (.func 73) #[] #[]] 102))
  have BKgb : Aside0 ((w2.alloc (.cells #[.func (.func 65) #[] #[], .func (.func 66) #[] #[], .func (.func 67) #[] #[], .func (.func 69) #[] #[], .func (.func 71) #[] #[], .func (.func 73) #[] #[]] 102)).heap[w2.heap.size]? = _) := ⟨blk_new _ _⟩
  have n0_ := Aside0.mk (below_alloc HB.out (.cells #[.func (.func 65) #[] #[], .func (.func 66) #[] #[], .func (.func 67) #[] #[], .func (.func 69) #[] #[], .func (.func 71) #[] #[], .func (.func 73) #[] #[]] 102))
  clear HB BKgp BKgv BKgr
  have HB := n0_
  clear n0_
  have BKgp := n_gp
  have BKgv := n_gv
  have BKgr := n_gr
  clear n_gp n_gv n_gr
  generalize (w2.alloc (.cells #[.func (.func 65) #[] #[], .func (.func 66) #[] #[], .func (.func 67) #[] #[], .func (.func 69) #[] #[], .func (.func 71) #[] #[], .func (.func 73) #[] #[]] 102)) = w3 at *
  generalize w2.heap.size = gb at *
  have cgb_1 : w3.cell? ⟨gb, 1, none⟩ = some (.func (.func 66) #[] #[]) := (blk_cell BKgb.out 1).trans rfl
  have cgb_2 : w3.cell? ⟨gb, 2, none⟩ = some (.func (.func 67) #[] #[]) := (blk_cell BKgb.out 2).trans rfl
  have cgv_0 : w3.cell? ⟨gv, 0, none⟩ = some (.int .u64 a1_0) := (blk_cell BKgv.out 0).trans rfl
  have cgv_1 : w3.cell? ⟨gv, 1, none⟩ = some (.int .u64 a1_1) := (blk_cell BKgv.out 1).trans rfl
  have cgv_2 : w3.cell? ⟨gv, 2, none⟩ = some (.int .u64 a1_2) := (blk_cell BKgv.out 2).trans rfl
  have fgv_0 : w3.frozen? ⟨gv, 0, none⟩ = false := blk_frozen BKgv.out 0
  have fgv_1 : w3.frozen? ⟨gv, 1, none⟩ = false := blk_frozen BKgv.out 1
  have fgv_2 : w3.frozen? ⟨gv, 2, none⟩ = false := blk_frozen BKgv.out 2
  go_upto_region 5 with (first | (go_at_call 66; refine (policy_rules_8.calls a1_0 a1_1 a1_2 q1 q2 q3 _ HX1.out).mono ?_; rintro e w4 ⟨rfl, hb⟩; have n_gp := bb BKgp hb; have n_gv := bb BKgv hb; have n_gr := bb BKgr hb; have n_gb := bb BKgb hb; have n0_ := bs HB hb; clear HB BKgp BKgv BKgr BKgb; have HB := n0_; clear n0_; have BKgp := n_gp; clear n_gp; have BKgv := n_gv; clear n_gv; have BKgr := n_gr; clear n_gr; have BKgb := n_gb; clear n_gb; clear hb; clear cgb_1 cgb_2; clear cgv_0 fgv_0 cgv_1 fgv_1 cgv_2 fgv_2; have cgv_0 : w4.cell? ⟨gv, 0, none⟩ = some (.int .u64 a1_0) := (blk_cell BKgv.out 0).trans rfl; have cgv_1 : w4.cell? ⟨gv, 1, none⟩ = some (.int .u64 a1_1) := (blk_cell BKgv.out 1).trans rfl; have cgv_2 : w4.cell? ⟨gv, 2, none⟩ = some (.int .u64 a1_2) := (blk_cell BKgv.out 2).trans rfl; have fgv_0 : w4.frozen? ⟨gv, 0, none⟩ = false := blk_frozen BKgv.out 0; have fgv_1 : w4.frozen? ⟨gv, 1, none⟩ = false := blk_frozen BKgv.out 1; have fgv_2 : w4.frozen? ⟨gv, 2, none⟩ = false := blk_frozen BKgv.out 2))
  clear cgv_0 fgv_0 cgv_1 fgv_1 cgv_2 fgv_2
  have n_gp := Aside0.mk (far3_ (a' := .int .u64 q1) (b' := .int .u64 q2) (c' := .int .u64 q3) BKgp.out NEgp_gv.out)
  have n_gr := Aside0.mk (far3_ (a' := .int .u64 q1) (b' := .int .u64 q2) (c' := .int .u64 q3) BKgr.out NEgv_gr.out.symm)
  have n_gb := Aside0.mk (far3_ (a' := .int .u64 q1) (b' := .int .u64 q2) (c' := .int .u64 q3) BKgb.out NEgv_gb.out.symm)
  have n_gv := Aside0.mk (put3_ (a' := .int .u64 q1) (b' := .int .u64 q2) (c' := .int .u64 q3) BKgv.out)
  have n0_ := Aside0.mk (set3_ (a' := .int .u64 q1) (b' := .int .u64 q2) (c' := .int .u64 q3) HB.out GEgv.out)
  clear BKgp BKgr BKgb BKgv HB
  have BKgp := n_gp
  have BKgr := n_gr
  have BKgb := n_gb
  have BKgv := n_gv
  have HB := n0_
  clear n_gp n_gr n_gb n_gv n0_
  generalize (((w4.setCell ⟨gv, 0, none⟩ (.int .u64 q1)).setCell ⟨gv, 1, none⟩ (.int .u64 q2)).setCell ⟨gv, 2, none⟩ (.int .u64 q3)) = w5 at *
  have cgb_1 : w5.cell? ⟨gb, 1, none⟩ = some (.func (.func 66) #[] #[]) := (blk_cell BKgb.out 1).trans rfl
  have cgb_2 : w5.cell? ⟨gb, 2, none⟩ = some (.func (.func 67) #[] #[]) := (blk_cell BKgb.out 2).trans rfl
  have cgv_0 : w5.cell? ⟨gv, 0, none⟩ = some (.int .u64 q1) := (blk_cell BKgv.out 0).trans rfl
  have cgv_1 : w5.cell? ⟨gv, 1, none⟩ = some (.int .u64 q2) := (blk_cell BKgv.out 1).trans rfl
  have cgv_2 : w5.cell? ⟨gv, 2, none⟩ = some (.int .u64 q3) := (blk_cell BKgv.out 2).trans rfl
  have fgv_0 : w5.frozen? ⟨gv, 0, none⟩ = false := blk_frozen BKgv.out 0
  have fgv_1 : w5.frozen? ⟨gv, 1, none⟩ = false := blk_frozen BKgv.out 1
  have fgv_2 : w5.frozen? ⟨gv, 2, none⟩ = false := blk_frozen BKgv.out 2
  have cgp_0 : w5.cell? ⟨gp, 0, none⟩ = some (.int .i64 2) := (blk_cell BKgp.out 0).trans rfl
  have cgp_1 : w5.cell? ⟨gp, 1, none⟩ = some (.int .u64 a0_1) := (blk_cell BKgp.out 1).trans rfl
  have cgp_2 : w5.cell? ⟨gp, 2, none⟩ = some (.int .u64 a0_2) := (blk_cell BKgp.out 2).trans rfl
  have cgp_3 : w5.cell? ⟨gp, 3, none⟩ = some (.int .u64 a0_3) := (blk_cell BKgp.out 3).trans rfl
  have cgp_4 : w5.cell? ⟨gp, 4, none⟩ = some (.int .u64 a0_4) := (blk_cell BKgp.out 4).trans rfl
  have fgp_0 : w5.frozen? ⟨gp, 0, none⟩ = false := blk_frozen BKgp.out 0
  have fgp_1 : w5.frozen? ⟨gp, 1, none⟩ = false := blk_frozen BKgp.out 1
  have fgp_2 : w5.frozen? ⟨gp, 2, none⟩ = false := blk_frozen BKgp.out 2
  have fgp_3 : w5.frozen? ⟨gp, 3, none⟩ = false := blk_frozen BKgp.out 3
  have fgp_4 : w5.frozen? ⟨gp, 4, none⟩ = false := blk_frozen BKgp.out 4
  go_upto_region 6 with (first | (go_at_call 67; refine (policy_rules_9.calls k 2 a0_1 a0_2 a0_3 a0_4 q1 q2 q3 a2 a3 m1 m2 m3 false _ HX2.out).mono ?_; rintro e w6 ⟨rfl, hb⟩; have n_gp := bb BKgp hb; have n_gv := bb BKgv hb; have n_gr := bb BKgr hb; have n_gb := bb BKgb hb; have n0_ := bs HB hb; clear HB BKgp BKgv BKgr BKgb; have HB := n0_; clear n0_; have BKgp := n_gp; clear n_gp; have BKgv := n_gv; clear n_gv; have BKgr := n_gr; clear n_gr; have BKgb := n_gb; clear n_gb; clear hb; clear cgb_1 cgb_2; clear cgv_0 fgv_0 cgv_1 fgv_1 cgv_2 fgv_2; clear cgp_0 fgp_0 cgp_1 fgp_1 cgp_2 fgp_2 cgp_3 fgp_3 cgp_4 fgp_4))
  have GEgn : Aside0 (w.heap.size ≤ w6.heap.size) := ⟨HB.out.size⟩
  have NEgp_gn : Aside0 (gp ≠ w6.heap.size) := ⟨Nat.ne_of_lt (blk_lt BKgp.out)⟩
  have NEgv_gn : Aside0 (gv ≠ w6.heap.size) := ⟨Nat.ne_of_lt (blk_lt BKgv.out)⟩
  have NEgr_gn : Aside0 (gr ≠ w6.heap.size) := ⟨Nat.ne_of_lt (blk_lt BKgr.out)⟩
  have NEgb_gn : Aside0 (gb ≠ w6.heap.size) := ⟨Nat.ne_of_lt (blk_lt BKgb.out)⟩
  have n_gp := Aside0.mk (blk_alloc BKgp.out (.cells #[.int .u64 m1, .int .u64 m2, .int .u64 m3] 40))
  have n_gv := Aside0.mk (blk_alloc BKgv.out (.cells #[.int .u64 m1, .int .u64 m2, .int .u64 m3] 40))
  have n_gr := Aside0.mk (blk_alloc BKgr.out (.cells #[.int .u64 m1, .int .u64 m2, .int .u64 m3] 40))
  have n_gb := Aside0.mk (blk_alloc BKgb.out (.cells #[.int .u64 m1, .int .u64 m2, .int .u64 m3] 40))
  have BKgn : Aside0 ((w6.alloc (.cells #[.int .u64 m1, .int .u64 m2, .int .u64 m3] 40)).heap[w6.heap.size]? = _) := ⟨blk_new _ _⟩
  have n0_ := Aside0.mk (below_alloc HB.out (.cells #[.int .u64 m1, .int .u64 m2, .int .u64 m3] 40))
  clear HB BKgp BKgv BKgr BKgb
  have HB := n0_
  clear n0_
  have BKgp := n_gp
  have BKgv := n_gv
  have BKgr := n_gr
  have BKgb := n_gb
  clear n_gp n_gv n_gr n_gb
  generalize (w6.alloc (.cells #[.int .u64 m1, .int .u64 m2, .int .u64 m3] 40)) = w7 at *
  generalize w6.heap.size = gn at *
  go_upto_region 8 with (fail)
  have SD : w7.drew.cell? ⟨gb, 3, none⟩ = some (.func (.func 69) #[] #[]) ∧ w7.drew.cell? ⟨gv, 0, none⟩ = some (.int .u64 q1) ∧ w7.drew.cell? ⟨gv, 1, none⟩ = some (.int .u64 q2) ∧ w7.drew.cell? ⟨gv, 2, none⟩ = some (.int .u64 q3) ∧ w7.drew.cell? ⟨gp, 0, none⟩ = some (.int .i64 2) ∧ w7.drew.cell? ⟨gp, 1, none⟩ = some (.int .u64 a0_1) ∧ w7.drew.cell? ⟨gp, 2, none⟩ = some (.int .u64 a0_2) ∧ w7.drew.cell? ⟨gp, 3, none⟩ = some (.int .u64 a0_3) ∧ w7.drew.cell? ⟨gp, 4, none⟩ = some (.int .u64 a0_4) := ⟨(blk_cell BKgb.out 3).trans rfl, (blk_cell BKgv.out 0).trans rfl, (blk_cell BKgv.out 1).trans rfl, (blk_cell BKgv.out 2).trans rfl, (blk_cell BKgp.out 0).trans rfl, (blk_cell BKgp.out 1).trans rfl, (blk_cell BKgp.out 2).trans rfl, (blk_cell BKgp.out 3).trans rfl, (blk_cell BKgp.out 4).trans rfl⟩
  go_region_held3 (fun w' => w'.cell? ⟨gb, 3, none⟩ = some (.func (.func 69) #[] #[]) ∧ w'.cell? ⟨gv, 0, none⟩ = some (.int .u64 q1) ∧ w'.cell? ⟨gv, 1, none⟩ = some (.int .u64 q2) ∧ w'.cell? ⟨gv, 2, none⟩ = some (.int .u64 q3) ∧ w'.cell? ⟨gp, 0, none⟩ = some (.int .i64 2) ∧ w'.cell? ⟨gp, 1, none⟩ = some (.int .u64 a0_1) ∧ w'.cell? ⟨gp, 2, none⟩ = some (.int .u64 a0_2) ∧ w'.cell? ⟨gp, 3, none⟩ = some (.int .u64 a0_3) ∧ w'.cell? ⟨gp, 4, none⟩ = some (.int .u64 a0_4)) (first | (with_reducible exact SD) | (with_reducible exact SD8) | (exact ⟨(blk_cell (far3_ BKgb.out NEgr_gb.out.symm) 3).trans rfl, (blk_cell (far3_ BKgv.out NEgv_gr.out) 0).trans rfl, (blk_cell (far3_ BKgv.out NEgv_gr.out) 1).trans rfl, (blk_cell (far3_ BKgv.out NEgv_gr.out) 2).trans rfl, (blk_cell (far3_ BKgp.out NEgp_gr.out) 0).trans rfl, (blk_cell (far3_ BKgp.out NEgp_gr.out) 1).trans rfl, (blk_cell (far3_ BKgp.out NEgp_gr.out) 2).trans rfl, (blk_cell (far3_ BKgp.out NEgp_gr.out) 3).trans rfl, (blk_cell (far3_ BKgp.out NEgp_gr.out) 4).trans rfl⟩))
   ((go_at_call 69; refine (policy_rules_10.calls k 2 a0_1 a0_2 a0_3 a0_4 q1 q2 q3 a2 a3 x _ HX3.out).mono ?_; rintro e w8 ⟨rfl, hb⟩; have n_gp := bb BKgp hb; have n_gv := bb BKgv hb; have n_gr := bb BKgr hb; have n_gb := bb BKgb hb; have n_gn := bb BKgn hb; have n0_ := bs HB hb; clear HB BKgp BKgv BKgr BKgb BKgn; have HB := n0_; clear n0_; have BKgp := n_gp; clear n_gp; have BKgv := n_gv; clear n_gv; have BKgr := n_gr; clear n_gr; have BKgb := n_gb; clear n_gb; have BKgn := n_gn; clear n_gn; clear hb; have SD8 : w8.cell? ⟨gb, 3, none⟩ = some (.func (.func 69) #[] #[]) ∧ w8.cell? ⟨gv, 0, none⟩ = some (.int .u64 q1) ∧ w8.cell? ⟨gv, 1, none⟩ = some (.int .u64 q2) ∧ w8.cell? ⟨gv, 2, none⟩ = some (.int .u64 q3) ∧ w8.cell? ⟨gp, 0, none⟩ = some (.int .i64 2) ∧ w8.cell? ⟨gp, 1, none⟩ = some (.int .u64 a0_1) ∧ w8.cell? ⟨gp, 2, none⟩ = some (.int .u64 a0_2) ∧ w8.cell? ⟨gp, 3, none⟩ = some (.int .u64 a0_3) ∧ w8.cell? ⟨gp, 4, none⟩ = some (.int .u64 a0_4) := ⟨(blk_cell BKgb.out 3).trans rfl, (blk_cell BKgv.out 0).trans rfl, (blk_cell BKgv.out 1).trans rfl, (blk_cell BKgv.out 2).trans rfl, (blk_cell BKgp.out 0).trans rfl, (blk_cell BKgp.out 1).trans rfl, (blk_cell BKgp.out 2).trans rfl, (blk_cell BKgp.out 3).trans rfl, (blk_cell BKgp.out 4).trans rfl⟩; have cgr_0 : w8.cell? ⟨gr, 0, none⟩ = some (.int .u64 0) := (blk_cell BKgr.out 0).trans rfl; have cgr_1 : w8.cell? ⟨gr, 1, none⟩ = some (.int .u64 0) := (blk_cell BKgr.out 1).trans rfl; have cgr_2 : w8.cell? ⟨gr, 2, none⟩ = some (.int .u64 0) := (blk_cell BKgr.out 2).trans rfl; have fgr_0 : w8.frozen? ⟨gr, 0, none⟩ = false := blk_frozen BKgr.out 0; have fgr_1 : w8.frozen? ⟨gr, 1, none⟩ = false := blk_frozen BKgr.out 1; have fgr_2 : w8.frozen? ⟨gr, 2, none⟩ = false := blk_frozen BKgr.out 2))
  go_wp2_with (fail)
  with_reducible refine bodyPost_ret (results_ctt rfl _ _ gr 40 #[.int .u64 q1, .int .u64 q2, .int .u64 q3] (0, 0) _ rfl (put3_ BKgr.out) hu29 rfl (by kernel_rfl)) rfl ?_
  exact ⟨rfl, set3_ HB.out GEgr.out⟩
set_option maxHeartbeats 1600000 in
set_option maxRecDepth 100000 in
theorem policy_Admit.grid_no (a0_1 a0_2 a0_3 a0_4 : Int) (a1_0 a1_1 a1_2 a2 a3 : Int) (w : World) (h : policy_rules_7.f 2 a0_1 a0_2 a0_3 a0_4 = some false) :
    Calls Try.prog 25 #[.agg #[.int .i64 2, .int .u64 a0_1, .int .u64 a0_2, .int .u64 a0_3, .int .u64 a0_4], .agg #[.int .u64 a1_0, .int .u64 a1_1, .int .u64 a1_2], .int .u64 a2, .int .u64 a3] w fun e w' => e = .returned (.tuple #[.agg #[.int .u64 0, .int .u64 0, .int .u64 0], .bool false, .int .u64 18446744073709551615]) ∧ Below w.heap.size w w' := by
  have HB := Aside0.mk (Below.refl w.heap.size w)
  have H := Aside0.mk h
  clear h
  have hu29 := Try.underlying40
  go_enter Try.func25, Try.ntmps25
  go_upto_region 2 with (first | ((with_reducible refine gate_dst (N := 4) rfl ?_); refine bx 4 #[.int .i64 2, .int .u64 a0_1, .int .u64 a0_2, .int .u64 a0_3, .int .u64 a0_4] 24 ?_; intro gp hg w_gp hbox hb; have n0_ := bs HB hb; have GEgp := sz HB hg; clear HB ; have HB := n0_; have BKgp := Aside0.mk hbox; clear n0_ hb hbox hg) | ((with_reducible refine gate_dst (N := 5) rfl ?_); refine bx 5 #[.int .u64 a1_0, .int .u64 a1_1, .int .u64 a1_2] 40 ?_; intro gv hg w_gv hbox hb; have n_gp := bb BKgp hb; have e_gp := nl BKgp hg; have n0_ := bs HB hb; have GEgv := sz HB hg; clear HB BKgp; have HB := n0_; have BKgp := n_gp; have NEgp_gv := e_gp; clear n_gp e_gp; have BKgv := Aside0.mk hbox; clear n0_ hb hbox hg) | ((with_reducible refine gate_dst (N := 8) rfl ?_); refine bx 8 #[.int .u64 0, .int .u64 0, .int .u64 0] 40 ?_; intro gr hg w_gr hbox hb; have n_gp := bb BKgp hb; have e_gp := nl BKgp hg; have n_gv := bb BKgv hb; have e_gv := nl BKgv hg; have n0_ := bs HB hb; have GEgr := sz HB hg; clear HB BKgp BKgv; have HB := n0_; have BKgp := n_gp; have NEgp_gr := e_gp; clear n_gp e_gp; have BKgv := n_gv; have NEgv_gr := e_gv; clear n_gv e_gv; have BKgr := Aside0.mk hbox; clear n0_ hb hbox hg; have cgp_0 : w_gr.cell? ⟨gp, 0, none⟩ = some (.int .i64 2) := (blk_cell BKgp.out 0).trans rfl; have cgp_1 : w_gr.cell? ⟨gp, 1, none⟩ = some (.int .u64 a0_1) := (blk_cell BKgp.out 1).trans rfl; have cgp_2 : w_gr.cell? ⟨gp, 2, none⟩ = some (.int .u64 a0_2) := (blk_cell BKgp.out 2).trans rfl; have cgp_3 : w_gr.cell? ⟨gp, 3, none⟩ = some (.int .u64 a0_3) := (blk_cell BKgp.out 3).trans rfl; have cgp_4 : w_gr.cell? ⟨gp, 4, none⟩ = some (.int .u64 a0_4) := (blk_cell BKgp.out 4).trans rfl) | (go_at_call 37; refine (policy_of.grid _ _ _ _ false _ H.out).mono ?_; rintro e w2 ⟨rfl, hb⟩; have n_gp := bb BKgp hb; have n_gv := bb BKgv hb; have n_gr := bb BKgr hb; have n0_ := bs HB hb; clear HB BKgp BKgv BKgr; have HB := n0_; clear n0_; have BKgp := n_gp; clear n_gp; have BKgv := n_gv; clear n_gv; have BKgr := n_gr; clear n_gr; clear hb))
  have GEgb : Aside0 (w.heap.size ≤ w2.heap.size) := ⟨HB.out.size⟩
  have NEgp_gb : Aside0 (gp ≠ w2.heap.size) := ⟨Nat.ne_of_lt (blk_lt BKgp.out)⟩
  have NEgv_gb : Aside0 (gv ≠ w2.heap.size) := ⟨Nat.ne_of_lt (blk_lt BKgv.out)⟩
  have NEgr_gb : Aside0 (gr ≠ w2.heap.size) := ⟨Nat.ne_of_lt (blk_lt BKgr.out)⟩
  have n_gp := Aside0.mk (blk_alloc BKgp.out (.cells #[.func (.func 65) #[] #[], .func (.func 66) #[] #[], .func (.func 67) #[] #[], .func (.func 69) #[] #[], .func (.func 71) #[] #[], .func (.func 73) #[] #[]] 102))
  have n_gv := Aside0.mk (blk_alloc BKgv.out (.cells #[.func (.func 65) #[] #[], .func (.func 66) #[] #[], .func (.func 67) #[] #[], .func (.func 69) #[] #[], .func (.func 71) #[] #[], .func (.func 73) #[] #[]] 102))
  have n_gr := Aside0.mk (blk_alloc BKgr.out (.cells #[.func (.func 65) #[] #[], .func (.func 66) #[] #[], .func (.func 67) #[] #[], .func (.func 69) #[] #[], .func (.func 71) #[] #[], .func (.func 73) #[] #[]] 102))
  have BKgb : Aside0 ((w2.alloc (.cells #[.func (.func 65) #[] #[], .func (.func 66) #[] #[], .func (.func 67) #[] #[], .func (.func 69) #[] #[], .func (.func 71) #[] #[], .func (.func 73) #[] #[]] 102)).heap[w2.heap.size]? = _) := ⟨blk_new _ _⟩
  have n0_ := Aside0.mk (below_alloc HB.out (.cells #[.func (.func 65) #[] #[], .func (.func 66) #[] #[], .func (.func 67) #[] #[], .func (.func 69) #[] #[], .func (.func 71) #[] #[], .func (.func 73) #[] #[]] 102))
  clear HB BKgp BKgv BKgr
  have HB := n0_
  clear n0_
  have BKgp := n_gp
  have BKgv := n_gv
  have BKgr := n_gr
  clear n_gp n_gv n_gr
  generalize (w2.alloc (.cells #[.func (.func 65) #[] #[], .func (.func 66) #[] #[], .func (.func 67) #[] #[], .func (.func 69) #[] #[], .func (.func 71) #[] #[], .func (.func 73) #[] #[]] 102)) = w3 at *
  generalize w2.heap.size = gb at *
  have cgr_0 : w3.cell? ⟨gr, 0, none⟩ = some (.int .u64 0) := (blk_cell BKgr.out 0).trans rfl
  have cgr_1 : w3.cell? ⟨gr, 1, none⟩ = some (.int .u64 0) := (blk_cell BKgr.out 1).trans rfl
  have cgr_2 : w3.cell? ⟨gr, 2, none⟩ = some (.int .u64 0) := (blk_cell BKgr.out 2).trans rfl
  have fgr_0 : w3.frozen? ⟨gr, 0, none⟩ = false := blk_frozen BKgr.out 0
  have fgr_1 : w3.frozen? ⟨gr, 1, none⟩ = false := blk_frozen BKgr.out 1
  have fgr_2 : w3.frozen? ⟨gr, 2, none⟩ = false := blk_frozen BKgr.out 2
  go_wp2_with (fail)
  with_reducible refine bodyPost_ret (results_ctt rfl _ _ gr 40 #[.int .u64 0, .int .u64 0, .int .u64 0] (0, 0) _ rfl (put3_ BKgr.out) hu29 rfl (by kernel_rfl)) rfl ?_
  exact ⟨rfl, set3_ HB.out GEgr.out⟩
set_option maxHeartbeats 1600000 in
set_option maxRecDepth 100000 in
theorem policy_Admit.other (a0_0 a0_1 a0_2 a0_3 a0_4 : Int) (a1_0 a1_1 a1_2 a2 a3 : Int) (w : World) (hn1 : a0_0 ≠ 1) (hn2 : a0_0 ≠ 2) :
    Calls Try.prog 25 #[.agg #[.int .i64 a0_0, .int .u64 a0_1, .int .u64 a0_2, .int .u64 a0_3, .int .u64 a0_4], .agg #[.int .u64 a1_0, .int .u64 a1_1, .int .u64 a1_2], .int .u64 a2, .int .u64 a3] w fun e w' => e = .returned (.tuple #[.agg #[.int .u64 0, .int .u64 0, .int .u64 0], .bool false, .int .u64 18446744073709551615]) ∧ Below w.heap.size w w' := by
  have HB := Aside0.mk (Below.refl w.heap.size w)
  have H1 := Aside0.mk hn1
  have H2 := Aside0.mk hn2
  clear hn1 hn2
  have hu29 := Try.underlying40
  go_enter Try.func25, Try.ntmps25
  go_upto_region 2 with (first | ((with_reducible refine gate_dst (N := 4) rfl ?_); refine bx 4 #[.int .i64 a0_0, .int .u64 a0_1, .int .u64 a0_2, .int .u64 a0_3, .int .u64 a0_4] 24 ?_; intro gp hg w_gp hbox hb; have n0_ := bs HB hb; have GEgp := sz HB hg; clear HB ; have HB := n0_; have BKgp := Aside0.mk hbox; clear n0_ hb hbox hg) | ((with_reducible refine gate_dst (N := 5) rfl ?_); refine bx 5 #[.int .u64 a1_0, .int .u64 a1_1, .int .u64 a1_2] 40 ?_; intro gv hg w_gv hbox hb; have n_gp := bb BKgp hb; have e_gp := nl BKgp hg; have n0_ := bs HB hb; have GEgv := sz HB hg; clear HB BKgp; have HB := n0_; have BKgp := n_gp; have NEgp_gv := e_gp; clear n_gp e_gp; have BKgv := Aside0.mk hbox; clear n0_ hb hbox hg) | ((with_reducible refine gate_dst (N := 8) rfl ?_); refine bx 8 #[.int .u64 0, .int .u64 0, .int .u64 0] 40 ?_; intro gr hg w_gr hbox hb; have n_gp := bb BKgp hb; have e_gp := nl BKgp hg; have n_gv := bb BKgv hb; have e_gv := nl BKgv hg; have n0_ := bs HB hb; have GEgr := sz HB hg; clear HB BKgp BKgv; have HB := n0_; have BKgp := n_gp; have NEgp_gr := e_gp; clear n_gp e_gp; have BKgv := n_gv; have NEgv_gr := e_gv; clear n_gv e_gv; have BKgr := Aside0.mk hbox; clear n0_ hb hbox hg; have cgp_0 : w_gr.cell? ⟨gp, 0, none⟩ = some (.int .i64 a0_0) := (blk_cell BKgp.out 0).trans rfl; have cgp_1 : w_gr.cell? ⟨gp, 1, none⟩ = some (.int .u64 a0_1) := (blk_cell BKgp.out 1).trans rfl; have cgp_2 : w_gr.cell? ⟨gp, 2, none⟩ = some (.int .u64 a0_2) := (blk_cell BKgp.out 2).trans rfl; have cgp_3 : w_gr.cell? ⟨gp, 3, none⟩ = some (.int .u64 a0_3) := (blk_cell BKgp.out 3).trans rfl; have cgp_4 : w_gr.cell? ⟨gp, 4, none⟩ = some (.int .u64 a0_4) := (blk_cell BKgp.out 4).trans rfl) | (go_at_call 37; refine (policy_of.other _ _ _ _ _ _ H1.out H2.out).mono ?_; rintro e w2 ⟨rfl, hb⟩; have n_gp := bb BKgp hb; have n_gv := bb BKgv hb; have n_gr := bb BKgr hb; have n0_ := bs HB hb; clear HB BKgp BKgv BKgr; have HB := n0_; clear n0_; have BKgp := n_gp; clear n_gp; have BKgv := n_gv; clear n_gv; have BKgr := n_gr; clear n_gr; clear hb))
  have GEgb : Aside0 (w.heap.size ≤ w2.heap.size) := ⟨HB.out.size⟩
  have NEgp_gb : Aside0 (gp ≠ w2.heap.size) := ⟨Nat.ne_of_lt (blk_lt BKgp.out)⟩
  have NEgv_gb : Aside0 (gv ≠ w2.heap.size) := ⟨Nat.ne_of_lt (blk_lt BKgv.out)⟩
  have NEgr_gb : Aside0 (gr ≠ w2.heap.size) := ⟨Nat.ne_of_lt (blk_lt BKgr.out)⟩
  have n_gp := Aside0.mk (blk_alloc BKgp.out (.cells #[.nilFunc, .nilFunc, .nilFunc, .nilFunc, .nilFunc, .nilFunc] 102))
  have n_gv := Aside0.mk (blk_alloc BKgv.out (.cells #[.nilFunc, .nilFunc, .nilFunc, .nilFunc, .nilFunc, .nilFunc] 102))
  have n_gr := Aside0.mk (blk_alloc BKgr.out (.cells #[.nilFunc, .nilFunc, .nilFunc, .nilFunc, .nilFunc, .nilFunc] 102))
  have BKgb : Aside0 ((w2.alloc (.cells #[.nilFunc, .nilFunc, .nilFunc, .nilFunc, .nilFunc, .nilFunc] 102)).heap[w2.heap.size]? = _) := ⟨blk_new _ _⟩
  have n0_ := Aside0.mk (below_alloc HB.out (.cells #[.nilFunc, .nilFunc, .nilFunc, .nilFunc, .nilFunc, .nilFunc] 102))
  clear HB BKgp BKgv BKgr
  have HB := n0_
  clear n0_
  have BKgp := n_gp
  have BKgv := n_gv
  have BKgr := n_gr
  clear n_gp n_gv n_gr
  generalize (w2.alloc (.cells #[.nilFunc, .nilFunc, .nilFunc, .nilFunc, .nilFunc, .nilFunc] 102)) = w3 at *
  generalize w2.heap.size = gb at *
  have cgr_0 : w3.cell? ⟨gr, 0, none⟩ = some (.int .u64 0) := (blk_cell BKgr.out 0).trans rfl
  have cgr_1 : w3.cell? ⟨gr, 1, none⟩ = some (.int .u64 0) := (blk_cell BKgr.out 1).trans rfl
  have cgr_2 : w3.cell? ⟨gr, 2, none⟩ = some (.int .u64 0) := (blk_cell BKgr.out 2).trans rfl
  have fgr_0 : w3.frozen? ⟨gr, 0, none⟩ = false := blk_frozen BKgr.out 0
  have fgr_1 : w3.frozen? ⟨gr, 1, none⟩ = false := blk_frozen BKgr.out 1
  have fgr_2 : w3.frozen? ⟨gr, 2, none⟩ = false := blk_frozen BKgr.out 2
  go_wp2_with (fail)
  with_reducible refine bodyPost_ret (results_ctt rfl _ _ gr 40 #[.int .u64 0, .int .u64 0, .int .u64 0] (0, 0) _ rfl (put3_ BKgr.out) hu29 rfl (by kernel_rfl)) rfl ?_
  exact ⟨rfl, set3_ HB.out GEgr.out⟩
theorem policy_Admit.calls (k : Nat) (a0_0 : Int) (a0_1 : Int) (a0_2 : Int) (a0_3 : Int) (a0_4 : Int) (a1_0 : Int) (a1_1 : Int) (a1_2 : Int) (a2 : Int) (a3 : Int) (r1 : Int) (r2 : Int) (r3 : Int) (r4 : Bool) (r5 : Int) (w : World) (h : policy_Admit.f k a0_0 a0_1 a0_2 a0_3 a0_4 a1_0 a1_1 a1_2 a2 a3 = some (r1, r2, r3, r4, r5)) :
    Calls Try.prog 25 #[.agg #[.int .i64 a0_0, .int .u64 a0_1, .int .u64 a0_2, .int .u64 a0_3, .int .u64 a0_4], .agg #[.int .u64 a1_0, .int .u64 a1_1, .int .u64 a1_2], .int .u64 a2, .int .u64 a3] w fun e w' => e = .returned (.tuple #[.agg #[.int .u64 r1, .int .u64 r2, .int .u64 r3], .bool r4, .int .u64 r5]) ∧ Below w.heap.size w w' := by
  unfold policy_Admit.f at h
  obtain ⟨t, ht, h⟩ := Option.bind_eq_some_iff.mp h
  rcases policy_of.parts ht with ⟨rfl, hv⟩ | ⟨rfl, hv⟩ | ⟨c1, c2, rfl⟩
  · cases t with
    | true =>
      rw [if_pos rfl, if_pos rfl] at h
      obtain ⟨⟨q1, q2, q3⟩, hq, h⟩ := Option.bind_eq_some_iff.mp h
      obtain ⟨⟨m1, m2, m3, m4⟩, hm, h⟩ := Option.bind_eq_some_iff.mp h
      dsimp only at h hm
      cases m4 with
      | true =>
        rw [if_pos rfl] at h
        simp only [Option.some.injEq, Prod.mk.injEq] at h
        obtain ⟨rfl, rfl, rfl, rfl, rfl⟩ := h
        exact policy_Admit.flow_a a0_1 a0_2 a0_3 a0_4 k a1_0 a1_1 a1_2 a2 a3 q1 q2 q3 m1 m2 m3 w hv hq hm
      | false =>
        rw [if_neg (by decide)] at h
        obtain ⟨x, hx, h⟩ := Option.bind_eq_some_iff.mp h
        simp only [Option.some.injEq, Prod.mk.injEq] at h
        obtain ⟨rfl, rfl, rfl, rfl, rfl⟩ := h
        exact policy_Admit.flow_b a0_1 a0_2 a0_3 a0_4 k a1_0 a1_1 a1_2 a2 a3 q1 q2 q3 m1 m2 m3 x w hv hq hm hx
    | false =>
      rw [if_neg (by decide)] at h
      simp only [Option.some.injEq, Prod.mk.injEq] at h
      obtain ⟨rfl, rfl, rfl, rfl, rfl⟩ := h
      exact policy_Admit.flow_no a0_1 a0_2 a0_3 a0_4 a1_0 a1_1 a1_2 a2 a3 w hv
  · cases t with
    | true =>
      rw [if_pos rfl, if_neg (by decide)] at h
      obtain ⟨⟨q1, q2, q3⟩, hq, h⟩ := Option.bind_eq_some_iff.mp h
      obtain ⟨⟨m1, m2, m3, m4⟩, hm, h⟩ := Option.bind_eq_some_iff.mp h
      dsimp only at h hm
      cases m4 with
      | true =>
        rw [if_pos rfl] at h
        simp only [Option.some.injEq, Prod.mk.injEq] at h
        obtain ⟨rfl, rfl, rfl, rfl, rfl⟩ := h
        exact policy_Admit.grid_a a0_1 a0_2 a0_3 a0_4 k a1_0 a1_1 a1_2 a2 a3 q1 q2 q3 m1 m2 m3 w hv hq hm
      | false =>
        rw [if_neg (by decide)] at h
        obtain ⟨x, hx, h⟩ := Option.bind_eq_some_iff.mp h
        simp only [Option.some.injEq, Prod.mk.injEq] at h
        obtain ⟨rfl, rfl, rfl, rfl, rfl⟩ := h
        exact policy_Admit.grid_b a0_1 a0_2 a0_3 a0_4 k a1_0 a1_1 a1_2 a2 a3 q1 q2 q3 m1 m2 m3 x w hv hq hm hx
    | false =>
      rw [if_neg (by decide)] at h
      simp only [Option.some.injEq, Prod.mk.injEq] at h
      obtain ⟨rfl, rfl, rfl, rfl, rfl⟩ := h
      exact policy_Admit.grid_no a0_1 a0_2 a0_3 a0_4 a1_0 a1_1 a1_2 a2 a3 w hv
  · rw [if_neg (by decide)] at h
    simp only [Option.some.injEq, Prod.mk.injEq] at h
    obtain ⟨rfl, rfl, rfl, rfl, rfl⟩ := h
    exact policy_Admit.other a0_0 a0_1 a0_2 a0_3 a0_4 a1_0 a1_1 a1_2 a2 a3 w c1 c2

end Go.Proofs.Ytdoifmefhofnnaa.D
