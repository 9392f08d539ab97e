/- Written by the session's own program hyb.py: what functions of the program compute; Lean checks it. -/
import Derived.Test.YtnhngjhodcikiaaDoorFx0
import Derived.Test.YtnhngjhodcikiaaDoorFx2
import Derived.Test.YtnhngjhodcikiaaDoorFx5
import Derived.Test.YtnhngjhodcikiaaDoorFx12
import Derived.Test.YtnhngjhodcikiaaDoorFx14
import Derived.Test.YtnhngjhodcikiaaDoorWMaps
namespace Go.Proofs.YtnhngjhodcikiaaDoor.F
open Go.RowKit Go.Proofs.YtnhngjhodcikiaaDoorW.PrintWords Go.Proofs.YtnhngjhodcikiaaDoorW.PrintLast Go.Proofs.YtnhngjhodcikiaaDoorW.PrintMore Go.Proofs.YtnhngjhodcikiaaDoorW.PrintShort
attribute [local go_sem] run_Add64 run_Sub64
attribute [local go_sem] max2_int min2_int max_two min_two max_three min_three max_four min_four   -- for this text's walks alone
set_option linter.unusedVariables false
set_option linter.unusedSimpArgs false

attribute [local go_sem high] eqA37
/-! ### policy_Fits: function 29 -/
-- NEEDS WMaps
def policy_Fits.f (a0_0 : Int) (a0_1 : Int) (a0_2 : Int) (a0_3 : Int) (a0_4 : Int) (a1_0 : Int) (a1_1 : Int) (a1_2 : Int) : Option (Bool) := (policy_of.ok a0_0 a0_1 a0_2 a0_3 a0_4).bind fun t => (if t = true then (if a0_0 = 1 then ((policy_rules_2.f a1_0 a1_1 a1_2).bind fun q => (some (q.1 == a1_0 && (q.2.1 == a1_1 && (q.2.2 == a1_2))))) else ((policy_rules_8.f a1_0 a1_1 a1_2).bind fun q => (some (q.1 == a1_0 && (q.2.1 == a1_1 && (q.2.2 == a1_2)))))) else (some false))
def policy_Fits.T2 : Bool × List (List Nat × List Nat) := (true, [([], []), ([0], [0]), ([1], [1]), ([2, 1], [1, 2]), ([1], [1]), ([3, 4, 1, 1], [1, 3, 4]), ([1], [1]), ([5, 6, 1], [1, 5, 6]), ([1, 7], [1, 7]), ([8, 5, 0, 1, 2, 3, 4, 5, 6, 7, 8], [8])])
def policy_Fits.B2 : List Nat := [0, 1, 3, 7, 3, 31, 3, 127, 255, 511]
theorem policy_Fits.tab2 : rtab .any (opsOf Tryd.f29 2) = policy_Fits.T2 := by kernel_rfl
theorem policy_Fits.bits2 : waitsOk policy_Fits.T2.2 policy_Fits.B2 = true := by kernel_rfl
set_option maxHeartbeats 1600000 in
set_option maxRecDepth 100000 in
theorem policy_Fits.flow (a0_1 a0_2 a0_3 a0_4 : Int) (a1_0 a1_1 a1_2 : Int) (q1 q2 q3 : Int) (w : World) (h : policy_rules_1.f 1 a0_1 a0_2 a0_3 a0_4 = some true) (h1 : policy_rules_2.f a1_0 a1_1 a1_2 = some (q1, q2, q3)) :
    Calls Tryd.prog 29 #[.agg #[.int .i64 1, .int .u64 a0_1, .int .u64 a0_2, .int .u64 a0_3, .int .u64 a0_4], .agg #[.int .u64 a1_0, .int .u64 a1_1, .int .u64 a1_2]] w fun e w' => e = .returned (.bool (q1 == a1_0 && (q2 == a1_1 && (q3 == a1_2)))) ∧ Below w.heap.size w w' := by
  have HB := Aside0.mk (Below.refl w.heap.size w)
  have H := Aside0.mk h
  clear h
  have HX1 := Aside0.mk h1
  clear h1
  have hu29 := Tryd.underlying37
  go_enter Tryd.func29, Tryd.ntmps29
  go_upto_region 2 with (first | ((with_reducible refine gate_dst (N := 2) rfl ?_); refine bx 2 #[.int .i64 1, .int .u64 a0_1, .int .u64 a0_2, .int .u64 a0_3, .int .u64 a0_4] 35 ?_; intro gp hg w_gp hbox hb; have n0_ := bs HB hb; have GEgp := sz HB hg; clear HB ; have HB := n0_; have BKgp := Aside0.mk hbox; clear n0_ hb hbox hg) | ((with_reducible refine gate_dst (N := 3) rfl ?_); refine bx 3 #[.int .u64 a1_0, .int .u64 a1_1, .int .u64 a1_2] 37 ?_; intro gv hg w_gv hbox hb; have n_gp := bb BKgp hb; have e_gp := nl BKgp hg; have n0_ := bs HB hb; have GEgv := sz HB hg; clear HB BKgp; have HB := n0_; have BKgp := n_gp; have NEgp_gv := e_gp; clear n_gp e_gp; have BKgv := Aside0.mk hbox; clear n0_ hb hbox hg; have cgp_0 : w_gv.cell? ⟨gp, 0, none⟩ = some (.int .i64 1) := (blk_cell BKgp.out 0).trans rfl; have cgp_1 : w_gv.cell? ⟨gp, 1, none⟩ = some (.int .u64 a0_1) := (blk_cell BKgp.out 1).trans rfl; have cgp_2 : w_gv.cell? ⟨gp, 2, none⟩ = some (.int .u64 a0_2) := (blk_cell BKgp.out 2).trans rfl; have cgp_3 : w_gv.cell? ⟨gp, 3, none⟩ = some (.int .u64 a0_3) := (blk_cell BKgp.out 3).trans rfl; have cgp_4 : w_gv.cell? ⟨gp, 4, none⟩ = some (.int .u64 a0_4) := (blk_cell BKgp.out 4).trans rfl) | (go_at_call 38; refine (policy_of.flow _ _ _ _ true _ H.out).mono ?_; rintro e w2 ⟨rfl, hb⟩; have n_gp := bb BKgp hb; have n_gv := bb BKgv hb; have n0_ := bs HB hb; clear HB BKgp BKgv; have HB := n0_; clear n0_; have BKgp := n_gp; clear n_gp; have BKgv := n_gv; clear n_gv; clear hb))
  have GEgb : Aside0 (w.heap.size ≤ w2.heap.size) := ⟨HB.out.size⟩
  have NEgp_gb : Aside0 (gp ≠ w2.heap.size) := ⟨Nat.ne_of_lt (blk_lt BKgp.out)⟩
  have NEgv_gb : Aside0 (gv ≠ w2.heap.size) := ⟨Nat.ne_of_lt (blk_lt BKgv.out)⟩
  have n_gp := Aside0.mk (blk_alloc BKgp.out (.cells #[.func (.func 51) #[] #[], .func (.func 52) #[] #[], .func (.func 53) #[] #[], .func (.func 55) #[] #[], .func (.func 57) #[] #[], .func (.func 59) #[] #[]] 80))
  have n_gv := Aside0.mk (blk_alloc BKgv.out (.cells #[.func (.func 51) #[] #[], .func (.func 52) #[] #[], .func (.func 53) #[] #[], .func (.func 55) #[] #[], .func (.func 57) #[] #[], .func (.func 59) #[] #[]] 80))
  have BKgb : Aside0 ((w2.alloc (.cells #[.func (.func 51) #[] #[], .func (.func 52) #[] #[], .func (.func 53) #[] #[], .func (.func 55) #[] #[], .func (.func 57) #[] #[], .func (.func 59) #[] #[]] 80)).heap[w2.heap.size]? = _) := ⟨blk_new _ _⟩
  have n0_ := Aside0.mk (below_alloc HB.out (.cells #[.func (.func 51) #[] #[], .func (.func 52) #[] #[], .func (.func 53) #[] #[], .func (.func 55) #[] #[], .func (.func 57) #[] #[], .func (.func 59) #[] #[]] 80))
  clear HB BKgp BKgv
  have HB := n0_
  clear n0_
  have BKgp := n_gp
  have BKgv := n_gv
  clear n_gp n_gv
  generalize (w2.alloc (.cells #[.func (.func 51) #[] #[], .func (.func 52) #[] #[], .func (.func 53) #[] #[], .func (.func 55) #[] #[], .func (.func 57) #[] #[], .func (.func 59) #[] #[]] 80)) = w3 at *
  generalize w2.heap.size = gb at *
  have SD : w3.drew.cell? ⟨gb, 1, none⟩ = some (.func (.func 52) #[] #[]) ∧ w3.drew.cell? ⟨gv, 0, none⟩ = some (.int .u64 a1_0) ∧ w3.drew.cell? ⟨gv, 1, none⟩ = some (.int .u64 a1_1) ∧ w3.drew.cell? ⟨gv, 2, none⟩ = some (.int .u64 a1_2) := ⟨(blk_cell BKgb.out 1).trans rfl, (blk_cell BKgv.out 0).trans rfl, (blk_cell BKgv.out 1).trans rfl, (blk_cell BKgv.out 2).trans rfl⟩
  go_region_held3 (fun w' => w'.cell? ⟨gb, 1, none⟩ = some (.func (.func 52) #[] #[]) ∧ w'.cell? ⟨gv, 0, none⟩ = some (.int .u64 a1_0) ∧ w'.cell? ⟨gv, 1, none⟩ = some (.int .u64 a1_1) ∧ w'.cell? ⟨gv, 2, none⟩ = some (.int .u64 a1_2)) (first | (with_reducible exact SD) | (with_reducible exact SD4))
   ((go_at_call 52; refine (policy_rules_2.calls a1_0 a1_1 a1_2 q1 q2 q3 _ HX1.out).mono ?_; rintro e w4 ⟨rfl, hb⟩; have n_gp := bb BKgp hb; have n_gv := bb BKgv hb; have n_gb := bb BKgb hb; have n0_ := bs HB hb; clear HB BKgp BKgv BKgb; have HB := n0_; clear n0_; have BKgp := n_gp; clear n_gp; have BKgv := n_gv; clear n_gv; have BKgb := n_gb; clear n_gb; clear hb; have SD4 : w4.cell? ⟨gb, 1, none⟩ = some (.func (.func 52) #[] #[]) ∧ w4.cell? ⟨gv, 0, none⟩ = some (.int .u64 a1_0) ∧ w4.cell? ⟨gv, 1, none⟩ = some (.int .u64 a1_1) ∧ w4.cell? ⟨gv, 2, none⟩ = some (.int .u64 a1_2) := ⟨(blk_cell BKgb.out 1).trans rfl, (blk_cell BKgv.out 0).trans rfl, (blk_cell BKgv.out 1).trans rfl, (blk_cell BKgv.out 2).trans rfl⟩))
  go_wp2_with (fail)
  go_ret
  exact ⟨re, HB.out⟩
set_option maxHeartbeats 1600000 in
set_option maxRecDepth 100000 in
theorem policy_Fits.flow_no (a0_1 a0_2 a0_3 a0_4 : Int) (a1_0 a1_1 a1_2 : Int) (w : World) (h : policy_rules_1.f 1 a0_1 a0_2 a0_3 a0_4 = some false) :
    Calls Tryd.prog 29 #[.agg #[.int .i64 1, .int .u64 a0_1, .int .u64 a0_2, .int .u64 a0_3, .int .u64 a0_4], .agg #[.int .u64 a1_0, .int .u64 a1_1, .int .u64 a1_2]] w fun e w' => e = .returned (.bool false) ∧ Below w.heap.size w w' := by
  have HB := Aside0.mk (Below.refl w.heap.size w)
  have H := Aside0.mk h
  clear h
  have hu29 := Tryd.underlying37
  go_enter Tryd.func29, Tryd.ntmps29
  go_upto_region 2 with (first | ((with_reducible refine gate_dst (N := 2) rfl ?_); refine bx 2 #[.int .i64 1, .int .u64 a0_1, .int .u64 a0_2, .int .u64 a0_3, .int .u64 a0_4] 35 ?_; intro gp hg w_gp hbox hb; have n0_ := bs HB hb; have GEgp := sz HB hg; clear HB ; have HB := n0_; have BKgp := Aside0.mk hbox; clear n0_ hb hbox hg) | ((with_reducible refine gate_dst (N := 3) rfl ?_); refine bx 3 #[.int .u64 a1_0, .int .u64 a1_1, .int .u64 a1_2] 37 ?_; intro gv hg w_gv hbox hb; have n_gp := bb BKgp hb; have e_gp := nl BKgp hg; have n0_ := bs HB hb; have GEgv := sz HB hg; clear HB BKgp; have HB := n0_; have BKgp := n_gp; have NEgp_gv := e_gp; clear n_gp e_gp; have BKgv := Aside0.mk hbox; clear n0_ hb hbox hg; have cgp_0 : w_gv.cell? ⟨gp, 0, none⟩ = some (.int .i64 1) := (blk_cell BKgp.out 0).trans rfl; have cgp_1 : w_gv.cell? ⟨gp, 1, none⟩ = some (.int .u64 a0_1) := (blk_cell BKgp.out 1).trans rfl; have cgp_2 : w_gv.cell? ⟨gp, 2, none⟩ = some (.int .u64 a0_2) := (blk_cell BKgp.out 2).trans rfl; have cgp_3 : w_gv.cell? ⟨gp, 3, none⟩ = some (.int .u64 a0_3) := (blk_cell BKgp.out 3).trans rfl; have cgp_4 : w_gv.cell? ⟨gp, 4, none⟩ = some (.int .u64 a0_4) := (blk_cell BKgp.out 4).trans rfl) | (go_at_call 38; refine (policy_of.flow _ _ _ _ false _ H.out).mono ?_; rintro e w2 ⟨rfl, hb⟩; have n_gp := bb BKgp hb; have n_gv := bb BKgv hb; have n0_ := bs HB hb; clear HB BKgp BKgv; have HB := n0_; clear n0_; have BKgp := n_gp; clear n_gp; have BKgv := n_gv; clear n_gv; clear hb))
  have GEgb : Aside0 (w.heap.size ≤ w2.heap.size) := ⟨HB.out.size⟩
  have NEgp_gb : Aside0 (gp ≠ w2.heap.size) := ⟨Nat.ne_of_lt (blk_lt BKgp.out)⟩
  have NEgv_gb : Aside0 (gv ≠ w2.heap.size) := ⟨Nat.ne_of_lt (blk_lt BKgv.out)⟩
  have n_gp := Aside0.mk (blk_alloc BKgp.out (.cells #[.func (.func 51) #[] #[], .func (.func 52) #[] #[], .func (.func 53) #[] #[], .func (.func 55) #[] #[], .func (.func 57) #[] #[], .func (.func 59) #[] #[]] 80))
  have n_gv := Aside0.mk (blk_alloc BKgv.out (.cells #[.func (.func 51) #[] #[], .func (.func 52) #[] #[], .func (.func 53) #[] #[], .func (.func 55) #[] #[], .func (.func 57) #[] #[], .func (.func 59) #[] #[]] 80))
  have BKgb : Aside0 ((w2.alloc (.cells #[.func (.func 51) #[] #[], .func (.func 52) #[] #[], .func (.func 53) #[] #[], .func (.func 55) #[] #[], .func (.func 57) #[] #[], .func (.func 59) #[] #[]] 80)).heap[w2.heap.size]? = _) := ⟨blk_new _ _⟩
  have n0_ := Aside0.mk (below_alloc HB.out (.cells #[.func (.func 51) #[] #[], .func (.func 52) #[] #[], .func (.func 53) #[] #[], .func (.func 55) #[] #[], .func (.func 57) #[] #[], .func (.func 59) #[] #[]] 80))
  clear HB BKgp BKgv
  have HB := n0_
  clear n0_
  have BKgp := n_gp
  have BKgv := n_gv
  clear n_gp n_gv
  generalize (w2.alloc (.cells #[.func (.func 51) #[] #[], .func (.func 52) #[] #[], .func (.func 53) #[] #[], .func (.func 55) #[] #[], .func (.func 57) #[] #[], .func (.func 59) #[] #[]] 80)) = w3 at *
  generalize w2.heap.size = gb at *
  refine start_ (n := 10) (S := fun _ => True) (ds := []) #[false, false, false, false, false, false, false, false, false, false] (by kernel_rfl) rfl rfl trivial (fun hHeld => ?_)
  refine with_tabW policy_Fits.tab2 policy_Fits.bits2 (fun HT_ HW_ => ?_)
  have n0_ := Aside0.mk (below_drew1 HB.out)
  clear HB
  have HB := n0_
  clear n0_
  generalize w3.drew = w4 at *
  refine chain_ (fuel := 0) [(0, 0, some 12), (1, 0, some 13), (2, 2, some 14), (3, 2, some 15), (4, 2, some 16), (5, 2, some 17), (6, 2, some 18), (7, 2, some 19), (8, 0, some 20), (9, 0, some 4)] #[true, true, true, true, true, true, true, true, true, true] HT_.out HW_.out (by kernel_rfl) (fun _ _ _ _ _ h => h) (Or.inl (by decide)) rfl ?_
  (iterate 2 refine lkP ?_); (iterate 6 refine lkO ?_); (iterate 2 refine lkP ?_); refine .nil ?_
  refine done_ (done_of HT_.out (by kernel_rfl)) ?_
  go_wp2_with (fail)
  go_ret
  exact ⟨rfl, HB.out⟩
set_option maxHeartbeats 1600000 in
set_option maxRecDepth 100000 in
theorem policy_Fits.grid (a0_1 a0_2 a0_3 a0_4 : Int) (a1_0 a1_1 a1_2 : Int) (q1 q2 q3 : Int) (w : World) (h : policy_rules_7.f 2 a0_1 a0_2 a0_3 a0_4 = some true) (h1 : policy_rules_8.f a1_0 a1_1 a1_2 = some (q1, q2, q3)) :
    Calls Tryd.prog 29 #[.agg #[.int .i64 2, .int .u64 a0_1, .int .u64 a0_2, .int .u64 a0_3, .int .u64 a0_4], .agg #[.int .u64 a1_0, .int .u64 a1_1, .int .u64 a1_2]] w fun e w' => e = .returned (.bool (q1 == a1_0 && (q2 == a1_1 && (q3 == a1_2)))) ∧ Below w.heap.size w w' := by
  have HB := Aside0.mk (Below.refl w.heap.size w)
  have H := Aside0.mk h
  clear h
  have HX1 := Aside0.mk h1
  clear h1
  have hu29 := Tryd.underlying37
  go_enter Tryd.func29, Tryd.ntmps29
  go_upto_region 2 with (first | ((with_reducible refine gate_dst (N := 2) rfl ?_); refine bx 2 #[.int .i64 2, .int .u64 a0_1, .int .u64 a0_2, .int .u64 a0_3, .int .u64 a0_4] 35 ?_; intro gp hg w_gp hbox hb; have n0_ := bs HB hb; have GEgp := sz HB hg; clear HB ; have HB := n0_; have BKgp := Aside0.mk hbox; clear n0_ hb hbox hg) | ((with_reducible refine gate_dst (N := 3) rfl ?_); refine bx 3 #[.int .u64 a1_0, .int .u64 a1_1, .int .u64 a1_2] 37 ?_; intro gv hg w_gv hbox hb; have n_gp := bb BKgp hb; have e_gp := nl BKgp hg; have n0_ := bs HB hb; have GEgv := sz HB hg; clear HB BKgp; have HB := n0_; have BKgp := n_gp; have NEgp_gv := e_gp; clear n_gp e_gp; have BKgv := Aside0.mk hbox; clear n0_ hb hbox hg; have cgp_0 : w_gv.cell? ⟨gp, 0, none⟩ = some (.int .i64 2) := (blk_cell BKgp.out 0).trans rfl; have cgp_1 : w_gv.cell? ⟨gp, 1, none⟩ = some (.int .u64 a0_1) := (blk_cell BKgp.out 1).trans rfl; have cgp_2 : w_gv.cell? ⟨gp, 2, none⟩ = some (.int .u64 a0_2) := (blk_cell BKgp.out 2).trans rfl; have cgp_3 : w_gv.cell? ⟨gp, 3, none⟩ = some (.int .u64 a0_3) := (blk_cell BKgp.out 3).trans rfl; have cgp_4 : w_gv.cell? ⟨gp, 4, none⟩ = some (.int .u64 a0_4) := (blk_cell BKgp.out 4).trans rfl) | (go_at_call 38; refine (policy_of.grid _ _ _ _ true _ H.out).mono ?_; rintro e w2 ⟨rfl, hb⟩; have n_gp := bb BKgp hb; have n_gv := bb BKgv hb; have n0_ := bs HB hb; clear HB BKgp BKgv; have HB := n0_; clear n0_; have BKgp := n_gp; clear n_gp; have BKgv := n_gv; clear n_gv; clear hb))
  have GEgb : Aside0 (w.heap.size ≤ w2.heap.size) := ⟨HB.out.size⟩
  have NEgp_gb : Aside0 (gp ≠ w2.heap.size) := ⟨Nat.ne_of_lt (blk_lt BKgp.out)⟩
  have NEgv_gb : Aside0 (gv ≠ w2.heap.size) := ⟨Nat.ne_of_lt (blk_lt BKgv.out)⟩
  have n_gp := Aside0.mk (blk_alloc BKgp.out (.cells #[.func (.func 60) #[] #[], .func (.func 61) #[] #[], .func (.func 62) #[] #[], .func (.func 64) #[] #[], .func (.func 66) #[] #[], .func (.func 68) #[] #[]] 80))
  have n_gv := Aside0.mk (blk_alloc BKgv.out (.cells #[.func (.func 60) #[] #[], .func (.func 61) #[] #[], .func (.func 62) #[] #[], .func (.func 64) #[] #[], .func (.func 66) #[] #[], .func (.func 68) #[] #[]] 80))
  have BKgb : Aside0 ((w2.alloc (.cells #[.func (.func 60) #[] #[], .func (.func 61) #[] #[], .func (.func 62) #[] #[], .func (.func 64) #[] #[], .func (.func 66) #[] #[], .func (.func 68) #[] #[]] 80)).heap[w2.heap.size]? = _) := ⟨blk_new _ _⟩
  have n0_ := Aside0.mk (below_alloc HB.out (.cells #[.func (.func 60) #[] #[], .func (.func 61) #[] #[], .func (.func 62) #[] #[], .func (.func 64) #[] #[], .func (.func 66) #[] #[], .func (.func 68) #[] #[]] 80))
  clear HB BKgp BKgv
  have HB := n0_
  clear n0_
  have BKgp := n_gp
  have BKgv := n_gv
  clear n_gp n_gv
  generalize (w2.alloc (.cells #[.func (.func 60) #[] #[], .func (.func 61) #[] #[], .func (.func 62) #[] #[], .func (.func 64) #[] #[], .func (.func 66) #[] #[], .func (.func 68) #[] #[]] 80)) = w3 at *
  generalize w2.heap.size = gb at *
  have SD : w3.drew.cell? ⟨gb, 1, none⟩ = some (.func (.func 61) #[] #[]) ∧ w3.drew.cell? ⟨gv, 0, none⟩ = some (.int .u64 a1_0) ∧ w3.drew.cell? ⟨gv, 1, none⟩ = some (.int .u64 a1_1) ∧ w3.drew.cell? ⟨gv, 2, none⟩ = some (.int .u64 a1_2) := ⟨(blk_cell BKgb.out 1).trans rfl, (blk_cell BKgv.out 0).trans rfl, (blk_cell BKgv.out 1).trans rfl, (blk_cell BKgv.out 2).trans rfl⟩
  go_region_held3 (fun w' => w'.cell? ⟨gb, 1, none⟩ = some (.func (.func 61) #[] #[]) ∧ w'.cell? ⟨gv, 0, none⟩ = some (.int .u64 a1_0) ∧ w'.cell? ⟨gv, 1, none⟩ = some (.int .u64 a1_1) ∧ w'.cell? ⟨gv, 2, none⟩ = some (.int .u64 a1_2)) (first | (with_reducible exact SD) | (with_reducible exact SD4))
   ((go_at_call 61; refine (policy_rules_8.calls a1_0 a1_1 a1_2 q1 q2 q3 _ HX1.out).mono ?_; rintro e w4 ⟨rfl, hb⟩; have n_gp := bb BKgp hb; have n_gv := bb BKgv hb; have n_gb := bb BKgb hb; have n0_ := bs HB hb; clear HB BKgp BKgv BKgb; have HB := n0_; clear n0_; have BKgp := n_gp; clear n_gp; have BKgv := n_gv; clear n_gv; have BKgb := n_gb; clear n_gb; clear hb; have SD4 : w4.cell? ⟨gb, 1, none⟩ = some (.func (.func 61) #[] #[]) ∧ w4.cell? ⟨gv, 0, none⟩ = some (.int .u64 a1_0) ∧ w4.cell? ⟨gv, 1, none⟩ = some (.int .u64 a1_1) ∧ w4.cell? ⟨gv, 2, none⟩ = some (.int .u64 a1_2) := ⟨(blk_cell BKgb.out 1).trans rfl, (blk_cell BKgv.out 0).trans rfl, (blk_cell BKgv.out 1).trans rfl, (blk_cell BKgv.out 2).trans rfl⟩))
  go_wp2_with (fail)
  go_ret
  exact ⟨re, HB.out⟩
set_option maxHeartbeats 1600000 in
set_option maxRecDepth 100000 in
theorem policy_Fits.grid_no (a0_1 a0_2 a0_3 a0_4 : Int) (a1_0 a1_1 a1_2 : Int) (w : World) (h : policy_rules_7.f 2 a0_1 a0_2 a0_3 a0_4 = some false) :
    Calls Tryd.prog 29 #[.agg #[.int .i64 2, .int .u64 a0_1, .int .u64 a0_2, .int .u64 a0_3, .int .u64 a0_4], .agg #[.int .u64 a1_0, .int .u64 a1_1, .int .u64 a1_2]] w fun e w' => e = .returned (.bool false) ∧ Below w.heap.size w w' := by
  have HB := Aside0.mk (Below.refl w.heap.size w)
  have H := Aside0.mk h
  clear h
  have hu29 := Tryd.underlying37
  go_enter Tryd.func29, Tryd.ntmps29
  go_upto_region 2 with (first | ((with_reducible refine gate_dst (N := 2) rfl ?_); refine bx 2 #[.int .i64 2, .int .u64 a0_1, .int .u64 a0_2, .int .u64 a0_3, .int .u64 a0_4] 35 ?_; intro gp hg w_gp hbox hb; have n0_ := bs HB hb; have GEgp := sz HB hg; clear HB ; have HB := n0_; have BKgp := Aside0.mk hbox; clear n0_ hb hbox hg) | ((with_reducible refine gate_dst (N := 3) rfl ?_); refine bx 3 #[.int .u64 a1_0, .int .u64 a1_1, .int .u64 a1_2] 37 ?_; intro gv hg w_gv hbox hb; have n_gp := bb BKgp hb; have e_gp := nl BKgp hg; have n0_ := bs HB hb; have GEgv := sz HB hg; clear HB BKgp; have HB := n0_; have BKgp := n_gp; have NEgp_gv := e_gp; clear n_gp e_gp; have BKgv := Aside0.mk hbox; clear n0_ hb hbox hg; have cgp_0 : w_gv.cell? ⟨gp, 0, none⟩ = some (.int .i64 2) := (blk_cell BKgp.out 0).trans rfl; have cgp_1 : w_gv.cell? ⟨gp, 1, none⟩ = some (.int .u64 a0_1) := (blk_cell BKgp.out 1).trans rfl; have cgp_2 : w_gv.cell? ⟨gp, 2, none⟩ = some (.int .u64 a0_2) := (blk_cell BKgp.out 2).trans rfl; have cgp_3 : w_gv.cell? ⟨gp, 3, none⟩ = some (.int .u64 a0_3) := (blk_cell BKgp.out 3).trans rfl; have cgp_4 : w_gv.cell? ⟨gp, 4, none⟩ = some (.int .u64 a0_4) := (blk_cell BKgp.out 4).trans rfl) | (go_at_call 38; refine (policy_of.grid _ _ _ _ false _ H.out).mono ?_; rintro e w2 ⟨rfl, hb⟩; have n_gp := bb BKgp hb; have n_gv := bb BKgv hb; have n0_ := bs HB hb; clear HB BKgp BKgv; have HB := n0_; clear n0_; have BKgp := n_gp; clear n_gp; have BKgv := n_gv; clear n_gv; clear hb))
  have GEgb : Aside0 (w.heap.size ≤ w2.heap.size) := ⟨HB.out.size⟩
  have NEgp_gb : Aside0 (gp ≠ w2.heap.size) := ⟨Nat.ne_of_lt (blk_lt BKgp.out)⟩
  have NEgv_gb : Aside0 (gv ≠ w2.heap.size) := ⟨Nat.ne_of_lt (blk_lt BKgv.out)⟩
  have n_gp := Aside0.mk (blk_alloc BKgp.out (.cells #[.func (.func 60) #[] #[], .func (.func 61) #[] #[], .func (.func 62) #[] #[], .func (.func 64) #[] #[], .func (.func 66) #[] #[], .func (.func 68) #[] #[]] 80))
  have n_gv := Aside0.mk (blk_alloc BKgv.out (.cells #[.func (.func 60) #[] #[], .func (.func 61) #[] #[], .func (.func 62) #[] #[], .func (.func 64) #[] #[], .func (.func 66) #[] #[], .func (.func 68) #[] #[]] 80))
  have BKgb : Aside0 ((w2.alloc (.cells #[.func (.func 60) #[] #[], .func (.func 61) #[] #[], .func (.func 62) #[] #[], .func (.func 64) #[] #[], .func (.func 66) #[] #[], .func (.func 68) #[] #[]] 80)).heap[w2.heap.size]? = _) := ⟨blk_new _ _⟩
  have n0_ := Aside0.mk (below_alloc HB.out (.cells #[.func (.func 60) #[] #[], .func (.func 61) #[] #[], .func (.func 62) #[] #[], .func (.func 64) #[] #[], .func (.func 66) #[] #[], .func (.func 68) #[] #[]] 80))
  clear HB BKgp BKgv
  have HB := n0_
  clear n0_
  have BKgp := n_gp
  have BKgv := n_gv
  clear n_gp n_gv
  generalize (w2.alloc (.cells #[.func (.func 60) #[] #[], .func (.func 61) #[] #[], .func (.func 62) #[] #[], .func (.func 64) #[] #[], .func (.func 66) #[] #[], .func (.func 68) #[] #[]] 80)) = w3 at *
  generalize w2.heap.size = gb at *
  refine start_ (n := 10) (S := fun _ => True) (ds := []) #[false, false, false, false, false, false, false, false, false, false] (by kernel_rfl) rfl rfl trivial (fun hHeld => ?_)
  refine with_tabW policy_Fits.tab2 policy_Fits.bits2 (fun HT_ HW_ => ?_)
  have n0_ := Aside0.mk (below_drew1 HB.out)
  clear HB
  have HB := n0_
  clear n0_
  generalize w3.drew = w4 at *
  refine chain_ (fuel := 0) [(0, 0, some 12), (1, 0, some 13), (2, 2, some 14), (3, 2, some 15), (4, 2, some 16), (5, 2, some 17), (6, 2, some 18), (7, 2, some 19), (8, 0, some 20), (9, 0, some 4)] #[true, true, true, true, true, true, true, true, true, true] HT_.out HW_.out (by kernel_rfl) (fun _ _ _ _ _ h => h) (Or.inl (by decide)) rfl ?_
  (iterate 2 refine lkP ?_); (iterate 6 refine lkO ?_); (iterate 2 refine lkP ?_); refine .nil ?_
  refine done_ (done_of HT_.out (by kernel_rfl)) ?_
  go_wp2_with (fail)
  go_ret
  exact ⟨rfl, HB.out⟩
set_option maxHeartbeats 1600000 in
set_option maxRecDepth 100000 in
theorem policy_Fits.other (a0_0 a0_1 a0_2 a0_3 a0_4 : Int) (a1_0 a1_1 a1_2 : Int) (w : World) (hn1 : a0_0 ≠ 1) (hn2 : a0_0 ≠ 2) :
    Calls Tryd.prog 29 #[.agg #[.int .i64 a0_0, .int .u64 a0_1, .int .u64 a0_2, .int .u64 a0_3, .int .u64 a0_4], .agg #[.int .u64 a1_0, .int .u64 a1_1, .int .u64 a1_2]] w fun e w' => e = .returned (.bool false) ∧ Below w.heap.size w w' := by
  have HB := Aside0.mk (Below.refl w.heap.size w)
  have H1 := Aside0.mk hn1
  have H2 := Aside0.mk hn2
  clear hn1 hn2
  have hu29 := Tryd.underlying37
  go_enter Tryd.func29, Tryd.ntmps29
  go_upto_region 2 with (first | ((with_reducible refine gate_dst (N := 2) rfl ?_); refine bx 2 #[.int .i64 a0_0, .int .u64 a0_1, .int .u64 a0_2, .int .u64 a0_3, .int .u64 a0_4] 35 ?_; intro gp hg w_gp hbox hb; have n0_ := bs HB hb; have GEgp := sz HB hg; clear HB ; have HB := n0_; have BKgp := Aside0.mk hbox; clear n0_ hb hbox hg) | ((with_reducible refine gate_dst (N := 3) rfl ?_); refine bx 3 #[.int .u64 a1_0, .int .u64 a1_1, .int .u64 a1_2] 37 ?_; intro gv hg w_gv hbox hb; have n_gp := bb BKgp hb; have e_gp := nl BKgp hg; have n0_ := bs HB hb; have GEgv := sz HB hg; clear HB BKgp; have HB := n0_; have BKgp := n_gp; have NEgp_gv := e_gp; clear n_gp e_gp; have BKgv := Aside0.mk hbox; clear n0_ hb hbox hg; have cgp_0 : w_gv.cell? ⟨gp, 0, none⟩ = some (.int .i64 a0_0) := (blk_cell BKgp.out 0).trans rfl; have cgp_1 : w_gv.cell? ⟨gp, 1, none⟩ = some (.int .u64 a0_1) := (blk_cell BKgp.out 1).trans rfl; have cgp_2 : w_gv.cell? ⟨gp, 2, none⟩ = some (.int .u64 a0_2) := (blk_cell BKgp.out 2).trans rfl; have cgp_3 : w_gv.cell? ⟨gp, 3, none⟩ = some (.int .u64 a0_3) := (blk_cell BKgp.out 3).trans rfl; have cgp_4 : w_gv.cell? ⟨gp, 4, none⟩ = some (.int .u64 a0_4) := (blk_cell BKgp.out 4).trans rfl) | (go_at_call 38; refine (policy_of.other _ _ _ _ _ _ H1.out H2.out).mono ?_; rintro e w2 ⟨rfl, hb⟩; have n_gp := bb BKgp hb; have n_gv := bb BKgv hb; have n0_ := bs HB hb; clear HB BKgp BKgv; have HB := n0_; clear n0_; have BKgp := n_gp; clear n_gp; have BKgv := n_gv; clear n_gv; clear hb))
  have GEgb : Aside0 (w.heap.size ≤ w2.heap.size) := ⟨HB.out.size⟩
  have NEgp_gb : Aside0 (gp ≠ w2.heap.size) := ⟨Nat.ne_of_lt (blk_lt BKgp.out)⟩
  have NEgv_gb : Aside0 (gv ≠ w2.heap.size) := ⟨Nat.ne_of_lt (blk_lt BKgv.out)⟩
  have n_gp := Aside0.mk (blk_alloc BKgp.out (.cells #[.nilFunc, .nilFunc, .nilFunc, .nilFunc, .nilFunc, .nilFunc] 80))
  have n_gv := Aside0.mk (blk_alloc BKgv.out (.cells #[.nilFunc, .nilFunc, .nilFunc, .nilFunc, .nilFunc, .nilFunc] 80))
  have BKgb : Aside0 ((w2.alloc (.cells #[.nilFunc, .nilFunc, .nilFunc, .nilFunc, .nilFunc, .nilFunc] 80)).heap[w2.heap.size]? = _) := ⟨blk_new _ _⟩
  have n0_ := Aside0.mk (below_alloc HB.out (.cells #[.nilFunc, .nilFunc, .nilFunc, .nilFunc, .nilFunc, .nilFunc] 80))
  clear HB BKgp BKgv
  have HB := n0_
  clear n0_
  have BKgp := n_gp
  have BKgv := n_gv
  clear n_gp n_gv
  generalize (w2.alloc (.cells #[.nilFunc, .nilFunc, .nilFunc, .nilFunc, .nilFunc, .nilFunc] 80)) = w3 at *
  generalize w2.heap.size = gb at *
  refine start_ (n := 10) (S := fun _ => True) (ds := []) #[false, false, false, false, false, false, false, false, false, false] (by kernel_rfl) rfl rfl trivial (fun hHeld => ?_)
  refine with_tabW policy_Fits.tab2 policy_Fits.bits2 (fun HT_ HW_ => ?_)
  have n0_ := Aside0.mk (below_drew1 HB.out)
  clear HB
  have HB := n0_
  clear n0_
  generalize w3.drew = w4 at *
  refine chain_ (fuel := 0) [(0, 0, some 12), (1, 0, some 13), (2, 2, some 14), (3, 2, some 15), (4, 2, some 16), (5, 2, some 17), (6, 2, some 18), (7, 2, some 19), (8, 0, some 20), (9, 0, some 4)] #[true, true, true, true, true, true, true, true, true, true] HT_.out HW_.out (by kernel_rfl) (fun _ _ _ _ _ h => h) (Or.inl (by decide)) rfl ?_
  (iterate 2 refine lkP ?_); (iterate 6 refine lkO ?_); (iterate 2 refine lkP ?_); refine .nil ?_
  refine done_ (done_of HT_.out (by kernel_rfl)) ?_
  go_wp2_with (fail)
  go_ret
  exact ⟨rfl, HB.out⟩
theorem policy_Fits.calls (a0_0 : Int) (a0_1 : Int) (a0_2 : Int) (a0_3 : Int) (a0_4 : Int) (a1_0 : Int) (a1_1 : Int) (a1_2 : Int) (r : Bool) (w : World) (h : policy_Fits.f a0_0 a0_1 a0_2 a0_3 a0_4 a1_0 a1_1 a1_2 = some r) :
    Calls Tryd.prog 29 #[.agg #[.int .i64 a0_0, .int .u64 a0_1, .int .u64 a0_2, .int .u64 a0_3, .int .u64 a0_4], .agg #[.int .u64 a1_0, .int .u64 a1_1, .int .u64 a1_2]] w fun e w' => e = .returned (.bool r) ∧ Below w.heap.size w w' := by
  unfold policy_Fits.f at h
  obtain ⟨t, ht, h⟩ := Option.bind_eq_some_iff.mp h
  rcases policy_of.parts ht with ⟨rfl, hv⟩ | ⟨rfl, hv⟩ | ⟨c1, c2, rfl⟩
  · cases t with
    | true =>
      rw [if_pos rfl, if_pos rfl] at h
      obtain ⟨⟨q1, q2, q3⟩, hq, h⟩ := Option.bind_eq_some_iff.mp h
      obtain rfl := Option.some.inj h
      exact policy_Fits.flow a0_1 a0_2 a0_3 a0_4 a1_0 a1_1 a1_2 q1 q2 q3 w hv hq
    | false =>
      rw [if_neg (by decide)] at h
      obtain rfl := Option.some.inj h
      exact policy_Fits.flow_no a0_1 a0_2 a0_3 a0_4 a1_0 a1_1 a1_2 w hv
  · cases t with
    | true =>
      rw [if_pos rfl, if_neg (by decide)] at h
      obtain ⟨⟨q1, q2, q3⟩, hq, h⟩ := Option.bind_eq_some_iff.mp h
      obtain rfl := Option.some.inj h
      exact policy_Fits.grid a0_1 a0_2 a0_3 a0_4 a1_0 a1_1 a1_2 q1 q2 q3 w hv hq
    | false =>
      rw [if_neg (by decide)] at h
      obtain rfl := Option.some.inj h
      exact policy_Fits.grid_no a0_1 a0_2 a0_3 a0_4 a1_0 a1_1 a1_2 w hv
  · rw [if_neg (by decide)] at h
    obtain rfl := Option.some.inj h
    exact policy_Fits.other a0_0 a0_1 a0_2 a0_3 a0_4 a1_0 a1_1 a1_2 w c1 c2

end Go.Proofs.YtnhngjhodcikiaaDoor.F
