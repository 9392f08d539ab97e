/- Written by the session's own program hyb.py: what functions of the program compute; Lean checks it. -/
import Derived.Test.YtnhngjhodcikiaaDoorFx0
import Derived.Test.YtnhngjhodcikiaaDoorFx5
import Derived.Test.YtnhngjhodcikiaaDoorFx12
import Derived.Test.YtnhngjhodcikiaaDoorFx13
import Derived.Test.YtnhngjhodcikiaaDoorFx14
import Derived.Test.YtnhngjhodcikiaaDoorWIns
import Derived.Test.YtnhngjhodcikiaaDoorWMaps
namespace Go.Proofs.YtnhngjhodcikiaaDoor.F
open Go.RowKit Go.Proofs.YtnhngjhodcikiaaDoorW.PrintWords Go.Proofs.YtnhngjhodcikiaaDoorW.PrintLast Go.Proofs.YtnhngjhodcikiaaDoorW.PrintMore Go.Proofs.YtnhngjhodcikiaaDoorW.PrintShort
attribute [local go_sem] run_Add64 run_Sub64
attribute [local go_sem] max2_int min2_int max_two min_two max_three min_three max_four min_four   -- for this text's walks alone
set_option linter.unusedVariables false
set_option linter.unusedSimpArgs false

/-! ### state_copied: function 35 -/
-- NEEDS WIns
/-- An entry's cells. -/
def state_copied.cl (x : S56) : List Value := [.string x.f0, .int .i64 x.f1.f0, .int .u64 x.f1.f1, .int .u64 x.f1.f2, .int .u64 x.f1.f3, .int .u64 x.f1.f4, .int .u64 x.f2.f0, .int .u64 x.f2.f1, .int .u64 x.f2.f2]
theorem state_copied.cl_ones : ∀ x, ∀ u ∈ state_copied.cl x, u.oneCell' = true := by
  intro x u hu
  simp [state_copied.cl] at hu
  rcases hu with rfl | rfl | rfl | rfl | rfl | rfl | rfl | rfl | rfl <;> rfl
theorem state_copied.own_ {w : World} {base : Nat} {ok : Nat → Prop} {v : Value} {l : List S56} (h : Kd.R k56 56 w base ok v l) : w.ownsRow base 56 9 v l.length (flat state_copied.cl l) :=
  flat_of_R (d := k56) (cl := state_copied.cl) (fun _ => rfl) (fun _ _ _ hx => k56_open hx) h
theorem state_copied.row_ {w : World} {base : Nat} {v : Value} {l : List S56} (h : w.ownsRow base 56 9 v l.length (flat state_copied.cl l)) : Kd.R k56 56 w base (fun _ => True) v l :=
  R_of_flat (d := k56) (cl := state_copied.cl) (fun _ => rfl) (fun w base ok x => k56_mkM w base ok x) h (fun _ => trivial)
set_option maxHeartbeats 8000000 in
set_option maxRecDepth 100000 in
/-- slices.Clone of a row that came in. -/
theorem state_copied.clone (n c : Nat) (A : Option Addr) (cs : List Value) (w : World) (hl : cs.length = n * 9) (hA : A = none → n = 0) (hcell : ∀ ad, A = some ad → ∀ j u, cs[j]? = some u → w.cell? (ad.add j) = some u) (h1c : ∀ u ∈ cs, u.oneCell' = true) (hbig : n * 80 ≤ 140737488355328) :
    Calls Tryd.prog 43 #[.slice A n c] w fun e w' =>
      ∃ v', e = .returned v' ∧ w'.ownsRow w.heap.size 56 9 v' n cs ∧ Below w.heap.size w w' := by
  have hu := Tryd.underlying25
  have hinfo : (Tryd.prog.info? 56).map (fun i => (i.zero, i.size, i.bytes)) = some (some (Value.agg #[(.string ⟨#[]⟩), (.int .i64 0), (.int .u64 0), (.int .u64 0), (.int .u64 0), (.int .u64 0), (.int .u64 0), (.int .u64 0), (.int .u64 0)]), 9, 80) := by kernel_rfl
  obtain ⟨i0, hi, hzz⟩ := Option.map_eq_some_iff.1 hinfo
  simp only [Prod.mk.injEq] at hzz
  obtain ⟨hz0, hz1, hz2⟩ := hzz
  have HB := Aside0.mk (Below.refl w.heap.size w)
  have hnil : (binOp .eql 25 (.slice A n c) (.slice none 0 0)).run Tryd.prog w = .ok (.bool A.isNone) w := by
    have heq : ∀ d : Nat, (Op.equalIn (d + 1) 25 (.slice A n c) (.slice none 0 0)).run Tryd.prog w = .ok A.isNone w := fun d => by cases A <;> simp [Op.equalIn, run_underlying hu]
    have he : (Op.equal 25 (.slice A n c) (.slice none 0 0)).run Tryd.prog w = .ok A.isNone w := heq 9999
    simp [binOp, he]
  cases A with
  | none =>
    have hn := hA rfl
    subst hn
    rw [Nat.zero_mul] at hl
    have hcs := List.eq_nil_of_length_eq_zero hl
    subst hcs
    clear hcell
    go_enter Tryd.func43, Tryd.ntmps43
    go_wp2
    go_ret
    exact ⟨_, rfl, own_nil _ _ _ _, HB.out⟩
  | some ad =>
    have hc0 : ∀ j u, cs[j]? = some u → (w.alloc (.cells #[] 56 (0, 0))).cell? (ad.add j) = some u := fun j u hj => by
      have h := hcell ad rfl j u hj
      exact (((Below.refl w.heap.size w).alloc (Nat.le_refl _) _).cell (World.block_lt_of_cell? w _ h)).trans h
    have ho0 : (w.alloc (.cells #[] 56 (0, 0))).ownsRow w.heap.size 56 9 (.slice (some ⟨w.heap.size, 0, none⟩) 0 0) 0 [] :=
      ⟨rfl, .inr ⟨w.heap.size, 0, #[], rfl, Nat.le_refl _, heap_alloc_new w _, Nat.le_refl _, Nat.zero_le _, rfl, rfl⟩⟩
    have hb0 : Below w.heap.size w (w.alloc (.cells #[] 56 (0, 0))) := (Below.refl w.heap.size w).alloc (Nat.le_refl _) _
    have hbase : w.heap.size ≤ (w.alloc (.cells #[] 56 (0, 0))).heap.size := hb0.size
    have HO := Aside0.mk ho0
    have HC := Aside0.mk hc0
    have HB2 := Aside0.mk hb0
    have HS := Aside0.mk hbase
    clear hcell hA hc0 ho0 hb0 hbase HB
    go_enter Tryd.func43, Tryd.ntmps43
    go_wp2_with (at_builtin; (refine wpList_append_own_at _ rfl (.tmp 5) (.tmp 6) 25 rfl w.heap.size 56 i0 (Value.agg #[(.string ⟨#[]⟩), (.int .i64 0), (.int .u64 0), (.int .u64 0), (.int .u64 0), (.int .u64 0), (.int .u64 0), (.int .u64 0), (.int .u64 0)]) 9 80 hu hi hz0 hz1 hz2 rfl (by decide) _ 0 [] rfl HO.out ad n c cs rfl hl HC.out h1c (by unfold maxLen; omega) (by rw [Nat.zero_add]; exact hbig) HS.out ?_); intro v1 w1 hown1 hg1 hn1 hat1; rw [Nat.zero_add, List.nil_append] at hown1)
    go_wp2
    go_ret
    refine ⟨v1, rfl, hown1, HB2.out.grown hg1 HS.out fun k hk => ?_⟩
    injection hk with hk
    exact Nat.le_of_eq hk
theorem state_copied.cells {w : World} {A : Option Addr} {l : List S56} (h : Kd.C k56 w A l.length l) : ∀ ad, A = some ad → ∀ j u, (flat state_copied.cl l)[j]? = some u → w.cell? (ad.add j) = some u := by
  intro ad e
  subst e
  exact C_flat (d := k56) (by decide) (fun _ => rfl) (fun _ _ _ hx => k56_open hx) h
theorem state_copied.nil_ {w : World} {l : List S56} (h : Kd.C k56 w none l.length l) : l.length = 0 := by
  rcases Nat.eq_zero_or_pos l.length with h0 | h0
  · exact h0
  · obtain ⟨_, e, _⟩ := at_T56 h 0 (by omega) (by omega)
    cases e

set_option maxHeartbeats 8000000 in
set_option maxRecDepth 100000 in
theorem state_copied.calls (a0 a1 : Int) (A : Option Addr) (c : Nat) (l : List S56) (w : World) (hr : Kd.C k56 w A l.length l) (hl : l.length * 80 ≤ 140737488355328) :
    Calls Tryd.prog 35 #[.agg #[.int .u64 a0, .int .u64 a1, .slice A l.length c]] w fun e w' => ∃ A2 c2, e = .returned (.agg #[.int .u64 a0, .int .u64 a1, .slice A2 l.length c2]) ∧ Kd.R k56 56 w' w.heap.size (fun _ => True) (.slice A2 l.length c2) l ∧ Below w.heap.size w w' := by
  have hu27 := Tryd.underlying27
  have hu39 := Tryd.underlying39
  have HC := Aside0.mk hr
  have HL := Aside0.mk hl
  have HB := Aside0.mk (Below.refl w.heap.size w)
  clear hr hl
  go_enter Tryd.func35, Tryd.ntmps35
  go_wp2_with (first | ((with_reducible refine gate_dst (N := 1) rfl ?_); refine bx 1 #[.int .u64 a0, .int .u64 a1, .slice A l.length c] 27 ?_; intro g1 hg W_g1 hbox hb; have Bg1 := Aside0.mk hbox; have Gg1 := sz HB hg; have n0_ := bs HB hb; clear HB; have HB := n0_; clear n0_; clear hb hbox hg; obtain ⟨p0, p1, p2, p3, p4, p5⟩ := bc3 Bg1) | ((with_reducible refine gate_dst (N := 2) rfl ?_); refine bx 2 #[.int .u64 0, .int .u64 0, .slice none 0 0] 27 ?_; intro g2 hg W_g2 hbox hb; have Bg2 := Aside0.mk hbox; have Gg2 := sz HB hg; have NBg1_g2 := nl Bg1 hg; have MBg1_g2 := nr Bg1 hg; have n0_ := bb Bg1 hb; have n1_ := bs HB hb; clear Bg1 HB; have Bg1 := n0_; have HB := n1_; clear n0_ n1_; clear hb hbox hg; clear p0 p1 p2 p3 p4 p5; obtain ⟨p0, p1, p2, p3, p4, p5⟩ := bc3 Bg1; obtain ⟨q0, q1, q2, q3, q4, q5⟩ := bc3 Bg2; have nn1 := NBg1_g2.out; have nn2 := MBg1_g2.out))
  refine (state_copied.clone l.length c A (flat state_copied.cl l) _ (flat_len (cl := state_copied.cl) (s := 9) (fun _ => rfl) l) (fun e => by subst e; exact state_copied.nil_ HC.out) (state_copied.cells (Kd.C_below HC.out (bw HB))) (flat_ones state_copied.cl_ones l) HL.out).mono ?_
  rintro e W_3 ⟨v, rfl, ho, hb⟩
  have HO := Aside0.mk (Kd.R_lower (state_copied.row_ ho) (below_size (bw HB)))
  have n0_ := bb Bg1 hb
  have n1_ := bb Bg2 hb
  have n2_ := bs HB hb
  clear Bg1 Bg2 HB
  have Bg1 := n0_
  have Bg2 := n1_
  have HB := n2_
  clear n0_ n1_ n2_
  clear hb ho
  obtain ⟨A2, c2, e2⟩ := Kd.R_slice HO.out
  subst e2
  clear p0 p1 p2 p3 p4 p5 q0 q1 q2 q3 q4 q5
  obtain ⟨p0, p1, p2, p3, p4, p5⟩ := bc3 Bg1
  obtain ⟨q0, q1, q2, q3, q4, q5⟩ := bc3 Bg2
  go_wp2
  have h0 := Kd.R_types (Kd.R_types HO.out Bg1.out (by decide)) Bg2.out (by decide)
  refine bodyPost_ret (results_cell_row rfl _ _ g2 27 #[.int .u64 a0, .int .u64 a1, .slice A2 l.length c2] (0, 0) _ rfl (blk_put (blk_put (blk_put (blk_far Bg2.out MBg1_g2.out _) 0 _ rfl) 1 _ rfl) 2 _ rfl) Tryd.underlying27 rfl (by kernel_rfl)) rfl ?_
  exact ⟨A2, c2, rfl, Kd.R_mono (Kd.R_far (p := ⟨g2, 2, none⟩) (Kd.R_far (p := ⟨g2, 1, none⟩) (Kd.R_far (p := ⟨g2, 0, none⟩) (Kd.R_far (p := ⟨g1, 2, none⟩) h0 (fun _ hk => hk.1.2) _) (fun _ hk => hk.2) _) (fun _ hk => hk.2) _) (fun _ hk => hk.2) _) (fun _ _ => trivial), bw HB⟩

/-! ### policy_Covers: function 21 -/
-- NEEDS WMaps
def policy_Covers.f (a0_0 : Int) (a0_1 : Int) (a0_2 : Int) (a0_3 : Int) (a0_4 : Int) (a1_0 : Int) (a1_1 : Int) (a1_2 : Int) (a2_0 : Int) (a2_1 : Int) (a2_2 : Int) : Option (Bool) := (policy_of.ok a0_0 a0_1 a0_2 a0_3 a0_4).bind fun t => (if t = true then (if a0_0 = 1 then (policy_rules_6.f a1_0 a1_1 a1_2 a2_0 a2_1 a2_2) else (policy_rules_12.f a1_0 a1_1 a1_2 a2_0 a2_1 a2_2)) else (some false))
set_option maxHeartbeats 1600000 in
set_option maxRecDepth 100000 in
theorem policy_Covers.flow (a0_1 a0_2 a0_3 a0_4 : Int) (a1_0 a1_1 a1_2 a2_0 a2_1 a2_2 : Int) (r : Bool) (w : World) (h : policy_rules_1.f 1 a0_1 a0_2 a0_3 a0_4 = some true) (h1 : policy_rules_6.f a1_0 a1_1 a1_2 a2_0 a2_1 a2_2 = some r) :
    Calls Tryd.prog 21 #[.agg #[.int .i64 1, .int .u64 a0_1, .int .u64 a0_2, .int .u64 a0_3, .int .u64 a0_4], .agg #[.int .u64 a1_0, .int .u64 a1_1, .int .u64 a1_2], .agg #[.int .u64 a2_0, .int .u64 a2_1, .int .u64 a2_2]] w fun e w' => e = .returned (.bool r) ∧ Below w.heap.size w w' := by
  have HB := Aside0.mk (Below.refl w.heap.size w)
  have H := Aside0.mk h
  clear h
  have HX1 := Aside0.mk h1
  clear h1
  have hu29 := Tryd.underlying37
  go_enter Tryd.func21, Tryd.ntmps21
  go_upto_region 2 with (first | ((with_reducible refine gate_dst (N := 3) rfl ?_); refine bx 3 #[.int .i64 1, .int .u64 a0_1, .int .u64 a0_2, .int .u64 a0_3, .int .u64 a0_4] 35 ?_; intro gp hg w_gp hbox hb; have n0_ := bs HB hb; have GEgp := sz HB hg; clear HB ; have HB := n0_; have BKgp := Aside0.mk hbox; clear n0_ hb hbox hg) | ((with_reducible refine gate_dst (N := 4) rfl ?_); refine bx 4 #[.int .u64 a1_0, .int .u64 a1_1, .int .u64 a1_2] 37 ?_; intro gc hg w_gc hbox hb; have n_gp := bb BKgp hb; have e_gp := nl BKgp hg; have n0_ := bs HB hb; have GEgc := sz HB hg; clear HB BKgp; have HB := n0_; have BKgp := n_gp; have NEgp_gc := e_gp; clear n_gp e_gp; have BKgc := Aside0.mk hbox; clear n0_ hb hbox hg) | ((with_reducible refine gate_dst (N := 5) rfl ?_); refine bx 5 #[.int .u64 a2_0, .int .u64 a2_1, .int .u64 a2_2] 37 ?_; intro gv hg w_gv hbox hb; have n_gp := bb BKgp hb; have e_gp := nl BKgp hg; have n_gc := bb BKgc hb; have e_gc := nl BKgc hg; have n0_ := bs HB hb; have GEgv := sz HB hg; clear HB BKgp BKgc; have HB := n0_; have BKgp := n_gp; have NEgp_gv := e_gp; clear n_gp e_gp; have BKgc := n_gc; have NEgc_gv := e_gc; clear n_gc e_gc; have BKgv := Aside0.mk hbox; clear n0_ hb hbox hg; have cgp_0 : w_gv.cell? ⟨gp, 0, none⟩ = some (.int .i64 1) := (blk_cell BKgp.out 0).trans rfl; have cgp_1 : w_gv.cell? ⟨gp, 1, none⟩ = some (.int .u64 a0_1) := (blk_cell BKgp.out 1).trans rfl; have cgp_2 : w_gv.cell? ⟨gp, 2, none⟩ = some (.int .u64 a0_2) := (blk_cell BKgp.out 2).trans rfl; have cgp_3 : w_gv.cell? ⟨gp, 3, none⟩ = some (.int .u64 a0_3) := (blk_cell BKgp.out 3).trans rfl; have cgp_4 : w_gv.cell? ⟨gp, 4, none⟩ = some (.int .u64 a0_4) := (blk_cell BKgp.out 4).trans rfl) | (go_at_call 38; refine (policy_of.flow _ _ _ _ true _ H.out).mono ?_; rintro e w2 ⟨rfl, hb⟩; have n_gp := bb BKgp hb; have n_gc := bb BKgc hb; have n_gv := bb BKgv hb; have n0_ := bs HB hb; clear HB BKgp BKgc BKgv; have HB := n0_; clear n0_; have BKgp := n_gp; clear n_gp; have BKgc := n_gc; clear n_gc; have BKgv := n_gv; clear n_gv; clear hb))
  have GEgb : Aside0 (w.heap.size ≤ w2.heap.size) := ⟨HB.out.size⟩
  have NEgp_gb : Aside0 (gp ≠ w2.heap.size) := ⟨Nat.ne_of_lt (blk_lt BKgp.out)⟩
  have NEgc_gb : Aside0 (gc ≠ w2.heap.size) := ⟨Nat.ne_of_lt (blk_lt BKgc.out)⟩
  have NEgv_gb : Aside0 (gv ≠ w2.heap.size) := ⟨Nat.ne_of_lt (blk_lt BKgv.out)⟩
  have n_gp := Aside0.mk (blk_alloc BKgp.out (.cells #[.func (.func 51) #[] #[], .func (.func 52) #[] #[], .func (.func 53) #[] #[], .func (.func 55) #[] #[], .func (.func 57) #[] #[], .func (.func 59) #[] #[]] 80))
  have n_gc := Aside0.mk (blk_alloc BKgc.out (.cells #[.func (.func 51) #[] #[], .func (.func 52) #[] #[], .func (.func 53) #[] #[], .func (.func 55) #[] #[], .func (.func 57) #[] #[], .func (.func 59) #[] #[]] 80))
  have n_gv := Aside0.mk (blk_alloc BKgv.out (.cells #[.func (.func 51) #[] #[], .func (.func 52) #[] #[], .func (.func 53) #[] #[], .func (.func 55) #[] #[], .func (.func 57) #[] #[], .func (.func 59) #[] #[]] 80))
  have BKgb : Aside0 ((w2.alloc (.cells #[.func (.func 51) #[] #[], .func (.func 52) #[] #[], .func (.func 53) #[] #[], .func (.func 55) #[] #[], .func (.func 57) #[] #[], .func (.func 59) #[] #[]] 80)).heap[w2.heap.size]? = _) := ⟨blk_new _ _⟩
  have n0_ := Aside0.mk (below_alloc HB.out (.cells #[.func (.func 51) #[] #[], .func (.func 52) #[] #[], .func (.func 53) #[] #[], .func (.func 55) #[] #[], .func (.func 57) #[] #[], .func (.func 59) #[] #[]] 80))
  clear HB BKgp BKgc BKgv
  have HB := n0_
  clear n0_
  have BKgp := n_gp
  have BKgc := n_gc
  have BKgv := n_gv
  clear n_gp n_gc n_gv
  generalize (w2.alloc (.cells #[.func (.func 51) #[] #[], .func (.func 52) #[] #[], .func (.func 53) #[] #[], .func (.func 55) #[] #[], .func (.func 57) #[] #[], .func (.func 59) #[] #[]] 80)) = w3 at *
  generalize w2.heap.size = gb at *
  have cgb_5 : w3.cell? ⟨gb, 5, none⟩ = some (.func (.func 59) #[] #[]) := (blk_cell BKgb.out 5).trans rfl
  have cgc_0 : w3.cell? ⟨gc, 0, none⟩ = some (.int .u64 a1_0) := (blk_cell BKgc.out 0).trans rfl
  have cgc_1 : w3.cell? ⟨gc, 1, none⟩ = some (.int .u64 a1_1) := (blk_cell BKgc.out 1).trans rfl
  have cgc_2 : w3.cell? ⟨gc, 2, none⟩ = some (.int .u64 a1_2) := (blk_cell BKgc.out 2).trans rfl
  have fgc_0 : w3.frozen? ⟨gc, 0, none⟩ = false := blk_frozen BKgc.out 0
  have fgc_1 : w3.frozen? ⟨gc, 1, none⟩ = false := blk_frozen BKgc.out 1
  have fgc_2 : w3.frozen? ⟨gc, 2, none⟩ = false := blk_frozen BKgc.out 2
  have cgv_0 : w3.cell? ⟨gv, 0, none⟩ = some (.int .u64 a2_0) := (blk_cell BKgv.out 0).trans rfl
  have cgv_1 : w3.cell? ⟨gv, 1, none⟩ = some (.int .u64 a2_1) := (blk_cell BKgv.out 1).trans rfl
  have cgv_2 : w3.cell? ⟨gv, 2, none⟩ = some (.int .u64 a2_2) := (blk_cell BKgv.out 2).trans rfl
  have fgv_0 : w3.frozen? ⟨gv, 0, none⟩ = false := blk_frozen BKgv.out 0
  have fgv_1 : w3.frozen? ⟨gv, 1, none⟩ = false := blk_frozen BKgv.out 1
  have fgv_2 : w3.frozen? ⟨gv, 2, none⟩ = false := blk_frozen BKgv.out 2
  go_wp2_with (first | (go_at_call 59; refine ((policy_rules_6.calls a1_0 a1_1 a1_2 a2_0 a2_1 a2_2 r _ HX1.out)).mono ?_; rintro e w4 ⟨rfl, hb⟩; have n_gp := bb BKgp hb; have n_gc := bb BKgc hb; have n_gv := bb BKgv hb; have n_gb := bb BKgb hb; have n0_ := bs HB hb; clear HB BKgp BKgc BKgv BKgb; have HB := n0_; clear n0_; have BKgp := n_gp; clear n_gp; have BKgc := n_gc; clear n_gc; have BKgv := n_gv; clear n_gv; have BKgb := n_gb; clear n_gb; clear hb))
  go_ret
  exact ⟨rfl, HB.out⟩
set_option maxHeartbeats 1600000 in
set_option maxRecDepth 100000 in
theorem policy_Covers.flow_no (a0_1 a0_2 a0_3 a0_4 : Int) (a1_0 a1_1 a1_2 a2_0 a2_1 a2_2 : Int) (w : World) (h : policy_rules_1.f 1 a0_1 a0_2 a0_3 a0_4 = some false) :
    Calls Tryd.prog 21 #[.agg #[.int .i64 1, .int .u64 a0_1, .int .u64 a0_2, .int .u64 a0_3, .int .u64 a0_4], .agg #[.int .u64 a1_0, .int .u64 a1_1, .int .u64 a1_2], .agg #[.int .u64 a2_0, .int .u64 a2_1, .int .u64 a2_2]] w fun e w' => e = .returned (.bool false) ∧ Below w.heap.size w w' := by
  have HB := Aside0.mk (Below.refl w.heap.size w)
  have H := Aside0.mk h
  clear h
  have hu29 := Tryd.underlying37
  go_enter Tryd.func21, Tryd.ntmps21
  go_upto_region 2 with (first | ((with_reducible refine gate_dst (N := 3) rfl ?_); refine bx 3 #[.int .i64 1, .int .u64 a0_1, .int .u64 a0_2, .int .u64 a0_3, .int .u64 a0_4] 35 ?_; intro gp hg w_gp hbox hb; have n0_ := bs HB hb; have GEgp := sz HB hg; clear HB ; have HB := n0_; have BKgp := Aside0.mk hbox; clear n0_ hb hbox hg) | ((with_reducible refine gate_dst (N := 4) rfl ?_); refine bx 4 #[.int .u64 a1_0, .int .u64 a1_1, .int .u64 a1_2] 37 ?_; intro gc hg w_gc hbox hb; have n_gp := bb BKgp hb; have e_gp := nl BKgp hg; have n0_ := bs HB hb; have GEgc := sz HB hg; clear HB BKgp; have HB := n0_; have BKgp := n_gp; have NEgp_gc := e_gp; clear n_gp e_gp; have BKgc := Aside0.mk hbox; clear n0_ hb hbox hg) | ((with_reducible refine gate_dst (N := 5) rfl ?_); refine bx 5 #[.int .u64 a2_0, .int .u64 a2_1, .int .u64 a2_2] 37 ?_; intro gv hg w_gv hbox hb; have n_gp := bb BKgp hb; have e_gp := nl BKgp hg; have n_gc := bb BKgc hb; have e_gc := nl BKgc hg; have n0_ := bs HB hb; have GEgv := sz HB hg; clear HB BKgp BKgc; have HB := n0_; have BKgp := n_gp; have NEgp_gv := e_gp; clear n_gp e_gp; have BKgc := n_gc; have NEgc_gv := e_gc; clear n_gc e_gc; have BKgv := Aside0.mk hbox; clear n0_ hb hbox hg; have cgp_0 : w_gv.cell? ⟨gp, 0, none⟩ = some (.int .i64 1) := (blk_cell BKgp.out 0).trans rfl; have cgp_1 : w_gv.cell? ⟨gp, 1, none⟩ = some (.int .u64 a0_1) := (blk_cell BKgp.out 1).trans rfl; have cgp_2 : w_gv.cell? ⟨gp, 2, none⟩ = some (.int .u64 a0_2) := (blk_cell BKgp.out 2).trans rfl; have cgp_3 : w_gv.cell? ⟨gp, 3, none⟩ = some (.int .u64 a0_3) := (blk_cell BKgp.out 3).trans rfl; have cgp_4 : w_gv.cell? ⟨gp, 4, none⟩ = some (.int .u64 a0_4) := (blk_cell BKgp.out 4).trans rfl) | (go_at_call 38; refine (policy_of.flow _ _ _ _ false _ H.out).mono ?_; rintro e w2 ⟨rfl, hb⟩; have n_gp := bb BKgp hb; have n_gc := bb BKgc hb; have n_gv := bb BKgv hb; have n0_ := bs HB hb; clear HB BKgp BKgc BKgv; have HB := n0_; clear n0_; have BKgp := n_gp; clear n_gp; have BKgc := n_gc; clear n_gc; have BKgv := n_gv; clear n_gv; clear hb))
  have GEgb : Aside0 (w.heap.size ≤ w2.heap.size) := ⟨HB.out.size⟩
  have NEgp_gb : Aside0 (gp ≠ w2.heap.size) := ⟨Nat.ne_of_lt (blk_lt BKgp.out)⟩
  have NEgc_gb : Aside0 (gc ≠ w2.heap.size) := ⟨Nat.ne_of_lt (blk_lt BKgc.out)⟩
  have NEgv_gb : Aside0 (gv ≠ w2.heap.size) := ⟨Nat.ne_of_lt (blk_lt BKgv.out)⟩
  have n_gp := Aside0.mk (blk_alloc BKgp.out (.cells #[.func (.func 51) #[] #[], .func (.func 52) #[] #[], .func (.func 53) #[] #[], .func (.func 55) #[] #[], .func (.func 57) #[] #[], .func (.func 59) #[] #[]] 80))
  have n_gc := Aside0.mk (blk_alloc BKgc.out (.cells #[.func (.func 51) #[] #[], .func (.func 52) #[] #[], .func (.func 53) #[] #[], .func (.func 55) #[] #[], .func (.func 57) #[] #[], .func (.func 59) #[] #[]] 80))
  have n_gv := Aside0.mk (blk_alloc BKgv.out (.cells #[.func (.func 51) #[] #[], .func (.func 52) #[] #[], .func (.func 53) #[] #[], .func (.func 55) #[] #[], .func (.func 57) #[] #[], .func (.func 59) #[] #[]] 80))
  have BKgb : Aside0 ((w2.alloc (.cells #[.func (.func 51) #[] #[], .func (.func 52) #[] #[], .func (.func 53) #[] #[], .func (.func 55) #[] #[], .func (.func 57) #[] #[], .func (.func 59) #[] #[]] 80)).heap[w2.heap.size]? = _) := ⟨blk_new _ _⟩
  have n0_ := Aside0.mk (below_alloc HB.out (.cells #[.func (.func 51) #[] #[], .func (.func 52) #[] #[], .func (.func 53) #[] #[], .func (.func 55) #[] #[], .func (.func 57) #[] #[], .func (.func 59) #[] #[]] 80))
  clear HB BKgp BKgc BKgv
  have HB := n0_
  clear n0_
  have BKgp := n_gp
  have BKgc := n_gc
  have BKgv := n_gv
  clear n_gp n_gc n_gv
  generalize (w2.alloc (.cells #[.func (.func 51) #[] #[], .func (.func 52) #[] #[], .func (.func 53) #[] #[], .func (.func 55) #[] #[], .func (.func 57) #[] #[], .func (.func 59) #[] #[]] 80)) = w3 at *
  generalize w2.heap.size = gb at *
  go_wp2_with (fail)
  go_ret
  exact ⟨rfl, HB.out⟩
set_option maxHeartbeats 1600000 in
set_option maxRecDepth 100000 in
theorem policy_Covers.grid (a0_1 a0_2 a0_3 a0_4 : Int) (a1_0 a1_1 a1_2 a2_0 a2_1 a2_2 : Int) (r : Bool) (w : World) (h : policy_rules_7.f 2 a0_1 a0_2 a0_3 a0_4 = some true) (h1 : policy_rules_12.f a1_0 a1_1 a1_2 a2_0 a2_1 a2_2 = some r) :
    Calls Tryd.prog 21 #[.agg #[.int .i64 2, .int .u64 a0_1, .int .u64 a0_2, .int .u64 a0_3, .int .u64 a0_4], .agg #[.int .u64 a1_0, .int .u64 a1_1, .int .u64 a1_2], .agg #[.int .u64 a2_0, .int .u64 a2_1, .int .u64 a2_2]] w fun e w' => e = .returned (.bool r) ∧ Below w.heap.size w w' := by
  have HB := Aside0.mk (Below.refl w.heap.size w)
  have H := Aside0.mk h
  clear h
  have HX1 := Aside0.mk h1
  clear h1
  have hu29 := Tryd.underlying37
  go_enter Tryd.func21, Tryd.ntmps21
  go_upto_region 2 with (first | ((with_reducible refine gate_dst (N := 3) rfl ?_); refine bx 3 #[.int .i64 2, .int .u64 a0_1, .int .u64 a0_2, .int .u64 a0_3, .int .u64 a0_4] 35 ?_; intro gp hg w_gp hbox hb; have n0_ := bs HB hb; have GEgp := sz HB hg; clear HB ; have HB := n0_; have BKgp := Aside0.mk hbox; clear n0_ hb hbox hg) | ((with_reducible refine gate_dst (N := 4) rfl ?_); refine bx 4 #[.int .u64 a1_0, .int .u64 a1_1, .int .u64 a1_2] 37 ?_; intro gc hg w_gc hbox hb; have n_gp := bb BKgp hb; have e_gp := nl BKgp hg; have n0_ := bs HB hb; have GEgc := sz HB hg; clear HB BKgp; have HB := n0_; have BKgp := n_gp; have NEgp_gc := e_gp; clear n_gp e_gp; have BKgc := Aside0.mk hbox; clear n0_ hb hbox hg) | ((with_reducible refine gate_dst (N := 5) rfl ?_); refine bx 5 #[.int .u64 a2_0, .int .u64 a2_1, .int .u64 a2_2] 37 ?_; intro gv hg w_gv hbox hb; have n_gp := bb BKgp hb; have e_gp := nl BKgp hg; have n_gc := bb BKgc hb; have e_gc := nl BKgc hg; have n0_ := bs HB hb; have GEgv := sz HB hg; clear HB BKgp BKgc; have HB := n0_; have BKgp := n_gp; have NEgp_gv := e_gp; clear n_gp e_gp; have BKgc := n_gc; have NEgc_gv := e_gc; clear n_gc e_gc; have BKgv := Aside0.mk hbox; clear n0_ hb hbox hg; have cgp_0 : w_gv.cell? ⟨gp, 0, none⟩ = some (.int .i64 2) := (blk_cell BKgp.out 0).trans rfl; have cgp_1 : w_gv.cell? ⟨gp, 1, none⟩ = some (.int .u64 a0_1) := (blk_cell BKgp.out 1).trans rfl; have cgp_2 : w_gv.cell? ⟨gp, 2, none⟩ = some (.int .u64 a0_2) := (blk_cell BKgp.out 2).trans rfl; have cgp_3 : w_gv.cell? ⟨gp, 3, none⟩ = some (.int .u64 a0_3) := (blk_cell BKgp.out 3).trans rfl; have cgp_4 : w_gv.cell? ⟨gp, 4, none⟩ = some (.int .u64 a0_4) := (blk_cell BKgp.out 4).trans rfl) | (go_at_call 38; refine (policy_of.grid _ _ _ _ true _ H.out).mono ?_; rintro e w2 ⟨rfl, hb⟩; have n_gp := bb BKgp hb; have n_gc := bb BKgc hb; have n_gv := bb BKgv hb; have n0_ := bs HB hb; clear HB BKgp BKgc BKgv; have HB := n0_; clear n0_; have BKgp := n_gp; clear n_gp; have BKgc := n_gc; clear n_gc; have BKgv := n_gv; clear n_gv; clear hb))
  have GEgb : Aside0 (w.heap.size ≤ w2.heap.size) := ⟨HB.out.size⟩
  have NEgp_gb : Aside0 (gp ≠ w2.heap.size) := ⟨Nat.ne_of_lt (blk_lt BKgp.out)⟩
  have NEgc_gb : Aside0 (gc ≠ w2.heap.size) := ⟨Nat.ne_of_lt (blk_lt BKgc.out)⟩
  have NEgv_gb : Aside0 (gv ≠ w2.heap.size) := ⟨Nat.ne_of_lt (blk_lt BKgv.out)⟩
  have n_gp := Aside0.mk (blk_alloc BKgp.out (.cells #[.func (.func 60) #[] #[], .func (.func 61) #[] #[], .func (.func 62) #[] #[], .func (.func 64) #[] #[], .func (.func 66) #[] #[], .func (.func 68) #[] #[]] 80))
  have n_gc := Aside0.mk (blk_alloc BKgc.out (.cells #[.func (.func 60) #[] #[], .func (.func 61) #[] #[], .func (.func 62) #[] #[], .func (.func 64) #[] #[], .func (.func 66) #[] #[], .func (.func 68) #[] #[]] 80))
  have n_gv := Aside0.mk (blk_alloc BKgv.out (.cells #[.func (.func 60) #[] #[], .func (.func 61) #[] #[], .func (.func 62) #[] #[], .func (.func 64) #[] #[], .func (.func 66) #[] #[], .func (.func 68) #[] #[]] 80))
  have BKgb : Aside0 ((w2.alloc (.cells #[.func (.func 60) #[] #[], .func (.func 61) #[] #[], .func (.func 62) #[] #[], .func (.func 64) #[] #[], .func (.func 66) #[] #[], .func (.func 68) #[] #[]] 80)).heap[w2.heap.size]? = _) := ⟨blk_new _ _⟩
  have n0_ := Aside0.mk (below_alloc HB.out (.cells #[.func (.func 60) #[] #[], .func (.func 61) #[] #[], .func (.func 62) #[] #[], .func (.func 64) #[] #[], .func (.func 66) #[] #[], .func (.func 68) #[] #[]] 80))
  clear HB BKgp BKgc BKgv
  have HB := n0_
  clear n0_
  have BKgp := n_gp
  have BKgc := n_gc
  have BKgv := n_gv
  clear n_gp n_gc n_gv
  generalize (w2.alloc (.cells #[.func (.func 60) #[] #[], .func (.func 61) #[] #[], .func (.func 62) #[] #[], .func (.func 64) #[] #[], .func (.func 66) #[] #[], .func (.func 68) #[] #[]] 80)) = w3 at *
  generalize w2.heap.size = gb at *
  have cgb_5 : w3.cell? ⟨gb, 5, none⟩ = some (.func (.func 68) #[] #[]) := (blk_cell BKgb.out 5).trans rfl
  have cgc_0 : w3.cell? ⟨gc, 0, none⟩ = some (.int .u64 a1_0) := (blk_cell BKgc.out 0).trans rfl
  have cgc_1 : w3.cell? ⟨gc, 1, none⟩ = some (.int .u64 a1_1) := (blk_cell BKgc.out 1).trans rfl
  have cgc_2 : w3.cell? ⟨gc, 2, none⟩ = some (.int .u64 a1_2) := (blk_cell BKgc.out 2).trans rfl
  have fgc_0 : w3.frozen? ⟨gc, 0, none⟩ = false := blk_frozen BKgc.out 0
  have fgc_1 : w3.frozen? ⟨gc, 1, none⟩ = false := blk_frozen BKgc.out 1
  have fgc_2 : w3.frozen? ⟨gc, 2, none⟩ = false := blk_frozen BKgc.out 2
  have cgv_0 : w3.cell? ⟨gv, 0, none⟩ = some (.int .u64 a2_0) := (blk_cell BKgv.out 0).trans rfl
  have cgv_1 : w3.cell? ⟨gv, 1, none⟩ = some (.int .u64 a2_1) := (blk_cell BKgv.out 1).trans rfl
  have cgv_2 : w3.cell? ⟨gv, 2, none⟩ = some (.int .u64 a2_2) := (blk_cell BKgv.out 2).trans rfl
  have fgv_0 : w3.frozen? ⟨gv, 0, none⟩ = false := blk_frozen BKgv.out 0
  have fgv_1 : w3.frozen? ⟨gv, 1, none⟩ = false := blk_frozen BKgv.out 1
  have fgv_2 : w3.frozen? ⟨gv, 2, none⟩ = false := blk_frozen BKgv.out 2
  go_wp2_with (first | (go_at_call 68; refine ((policy_rules_12.calls a1_0 a1_1 a1_2 a2_0 a2_1 a2_2 r _ HX1.out)).mono ?_; rintro e w4 ⟨rfl, hb⟩; have n_gp := bb BKgp hb; have n_gc := bb BKgc hb; have n_gv := bb BKgv hb; have n_gb := bb BKgb hb; have n0_ := bs HB hb; clear HB BKgp BKgc BKgv BKgb; have HB := n0_; clear n0_; have BKgp := n_gp; clear n_gp; have BKgc := n_gc; clear n_gc; have BKgv := n_gv; clear n_gv; have BKgb := n_gb; clear n_gb; clear hb))
  go_ret
  exact ⟨rfl, HB.out⟩
set_option maxHeartbeats 1600000 in
set_option maxRecDepth 100000 in
theorem policy_Covers.grid_no (a0_1 a0_2 a0_3 a0_4 : Int) (a1_0 a1_1 a1_2 a2_0 a2_1 a2_2 : Int) (w : World) (h : policy_rules_7.f 2 a0_1 a0_2 a0_3 a0_4 = some false) :
    Calls Tryd.prog 21 #[.agg #[.int .i64 2, .int .u64 a0_1, .int .u64 a0_2, .int .u64 a0_3, .int .u64 a0_4], .agg #[.int .u64 a1_0, .int .u64 a1_1, .int .u64 a1_2], .agg #[.int .u64 a2_0, .int .u64 a2_1, .int .u64 a2_2]] w fun e w' => e = .returned (.bool false) ∧ Below w.heap.size w w' := by
  have HB := Aside0.mk (Below.refl w.heap.size w)
  have H := Aside0.mk h
  clear h
  have hu29 := Tryd.underlying37
  go_enter Tryd.func21, Tryd.ntmps21
  go_upto_region 2 with (first | ((with_reducible refine gate_dst (N := 3) rfl ?_); refine bx 3 #[.int .i64 2, .int .u64 a0_1, .int .u64 a0_2, .int .u64 a0_3, .int .u64 a0_4] 35 ?_; intro gp hg w_gp hbox hb; have n0_ := bs HB hb; have GEgp := sz HB hg; clear HB ; have HB := n0_; have BKgp := Aside0.mk hbox; clear n0_ hb hbox hg) | ((with_reducible refine gate_dst (N := 4) rfl ?_); refine bx 4 #[.int .u64 a1_0, .int .u64 a1_1, .int .u64 a1_2] 37 ?_; intro gc hg w_gc hbox hb; have n_gp := bb BKgp hb; have e_gp := nl BKgp hg; have n0_ := bs HB hb; have GEgc := sz HB hg; clear HB BKgp; have HB := n0_; have BKgp := n_gp; have NEgp_gc := e_gp; clear n_gp e_gp; have BKgc := Aside0.mk hbox; clear n0_ hb hbox hg) | ((with_reducible refine gate_dst (N := 5) rfl ?_); refine bx 5 #[.int .u64 a2_0, .int .u64 a2_1, .int .u64 a2_2] 37 ?_; intro gv hg w_gv hbox hb; have n_gp := bb BKgp hb; have e_gp := nl BKgp hg; have n_gc := bb BKgc hb; have e_gc := nl BKgc hg; have n0_ := bs HB hb; have GEgv := sz HB hg; clear HB BKgp BKgc; have HB := n0_; have BKgp := n_gp; have NEgp_gv := e_gp; clear n_gp e_gp; have BKgc := n_gc; have NEgc_gv := e_gc; clear n_gc e_gc; have BKgv := Aside0.mk hbox; clear n0_ hb hbox hg; have cgp_0 : w_gv.cell? ⟨gp, 0, none⟩ = some (.int .i64 2) := (blk_cell BKgp.out 0).trans rfl; have cgp_1 : w_gv.cell? ⟨gp, 1, none⟩ = some (.int .u64 a0_1) := (blk_cell BKgp.out 1).trans rfl; have cgp_2 : w_gv.cell? ⟨gp, 2, none⟩ = some (.int .u64 a0_2) := (blk_cell BKgp.out 2).trans rfl; have cgp_3 : w_gv.cell? ⟨gp, 3, none⟩ = some (.int .u64 a0_3) := (blk_cell BKgp.out 3).trans rfl; have cgp_4 : w_gv.cell? ⟨gp, 4, none⟩ = some (.int .u64 a0_4) := (blk_cell BKgp.out 4).trans rfl) | (go_at_call 38; refine (policy_of.grid _ _ _ _ false _ H.out).mono ?_; rintro e w2 ⟨rfl, hb⟩; have n_gp := bb BKgp hb; have n_gc := bb BKgc hb; have n_gv := bb BKgv hb; have n0_ := bs HB hb; clear HB BKgp BKgc BKgv; have HB := n0_; clear n0_; have BKgp := n_gp; clear n_gp; have BKgc := n_gc; clear n_gc; have BKgv := n_gv; clear n_gv; clear hb))
  have GEgb : Aside0 (w.heap.size ≤ w2.heap.size) := ⟨HB.out.size⟩
  have NEgp_gb : Aside0 (gp ≠ w2.heap.size) := ⟨Nat.ne_of_lt (blk_lt BKgp.out)⟩
  have NEgc_gb : Aside0 (gc ≠ w2.heap.size) := ⟨Nat.ne_of_lt (blk_lt BKgc.out)⟩
  have NEgv_gb : Aside0 (gv ≠ w2.heap.size) := ⟨Nat.ne_of_lt (blk_lt BKgv.out)⟩
  have n_gp := Aside0.mk (blk_alloc BKgp.out (.cells #[.func (.func 60) #[] #[], .func (.func 61) #[] #[], .func (.func 62) #[] #[], .func (.func 64) #[] #[], .func (.func 66) #[] #[], .func (.func 68) #[] #[]] 80))
  have n_gc := Aside0.mk (blk_alloc BKgc.out (.cells #[.func (.func 60) #[] #[], .func (.func 61) #[] #[], .func (.func 62) #[] #[], .func (.func 64) #[] #[], .func (.func 66) #[] #[], .func (.func 68) #[] #[]] 80))
  have n_gv := Aside0.mk (blk_alloc BKgv.out (.cells #[.func (.func 60) #[] #[], .func (.func 61) #[] #[], .func (.func 62) #[] #[], .func (.func 64) #[] #[], .func (.func 66) #[] #[], .func (.func 68) #[] #[]] 80))
  have BKgb : Aside0 ((w2.alloc (.cells #[.func (.func 60) #[] #[], .func (.func 61) #[] #[], .func (.func 62) #[] #[], .func (.func 64) #[] #[], .func (.func 66) #[] #[], .func (.func 68) #[] #[]] 80)).heap[w2.heap.size]? = _) := ⟨blk_new _ _⟩
  have n0_ := Aside0.mk (below_alloc HB.out (.cells #[.func (.func 60) #[] #[], .func (.func 61) #[] #[], .func (.func 62) #[] #[], .func (.func 64) #[] #[], .func (.func 66) #[] #[], .func (.func 68) #[] #[]] 80))
  clear HB BKgp BKgc BKgv
  have HB := n0_
  clear n0_
  have BKgp := n_gp
  have BKgc := n_gc
  have BKgv := n_gv
  clear n_gp n_gc n_gv
  generalize (w2.alloc (.cells #[.func (.func 60) #[] #[], .func (.func 61) #[] #[], .func (.func 62) #[] #[], .func (.func 64) #[] #[], .func (.func 66) #[] #[], .func (.func 68) #[] #[]] 80)) = w3 at *
  generalize w2.heap.size = gb at *
  go_wp2_with (fail)
  go_ret
  exact ⟨rfl, HB.out⟩
set_option maxHeartbeats 1600000 in
set_option maxRecDepth 100000 in
theorem policy_Covers.other (a0_0 a0_1 a0_2 a0_3 a0_4 : Int) (a1_0 a1_1 a1_2 a2_0 a2_1 a2_2 : Int) (w : World) (hn1 : a0_0 ≠ 1) (hn2 : a0_0 ≠ 2) :
    Calls Tryd.prog 21 #[.agg #[.int .i64 a0_0, .int .u64 a0_1, .int .u64 a0_2, .int .u64 a0_3, .int .u64 a0_4], .agg #[.int .u64 a1_0, .int .u64 a1_1, .int .u64 a1_2], .agg #[.int .u64 a2_0, .int .u64 a2_1, .int .u64 a2_2]] w fun e w' => e = .returned (.bool false) ∧ Below w.heap.size w w' := by
  have HB := Aside0.mk (Below.refl w.heap.size w)
  have H1 := Aside0.mk hn1
  have H2 := Aside0.mk hn2
  clear hn1 hn2
  have hu29 := Tryd.underlying37
  go_enter Tryd.func21, Tryd.ntmps21
  go_upto_region 2 with (first | ((with_reducible refine gate_dst (N := 3) rfl ?_); refine bx 3 #[.int .i64 a0_0, .int .u64 a0_1, .int .u64 a0_2, .int .u64 a0_3, .int .u64 a0_4] 35 ?_; intro gp hg w_gp hbox hb; have n0_ := bs HB hb; have GEgp := sz HB hg; clear HB ; have HB := n0_; have BKgp := Aside0.mk hbox; clear n0_ hb hbox hg) | ((with_reducible refine gate_dst (N := 4) rfl ?_); refine bx 4 #[.int .u64 a1_0, .int .u64 a1_1, .int .u64 a1_2] 37 ?_; intro gc hg w_gc hbox hb; have n_gp := bb BKgp hb; have e_gp := nl BKgp hg; have n0_ := bs HB hb; have GEgc := sz HB hg; clear HB BKgp; have HB := n0_; have BKgp := n_gp; have NEgp_gc := e_gp; clear n_gp e_gp; have BKgc := Aside0.mk hbox; clear n0_ hb hbox hg) | ((with_reducible refine gate_dst (N := 5) rfl ?_); refine bx 5 #[.int .u64 a2_0, .int .u64 a2_1, .int .u64 a2_2] 37 ?_; intro gv hg w_gv hbox hb; have n_gp := bb BKgp hb; have e_gp := nl BKgp hg; have n_gc := bb BKgc hb; have e_gc := nl BKgc hg; have n0_ := bs HB hb; have GEgv := sz HB hg; clear HB BKgp BKgc; have HB := n0_; have BKgp := n_gp; have NEgp_gv := e_gp; clear n_gp e_gp; have BKgc := n_gc; have NEgc_gv := e_gc; clear n_gc e_gc; have BKgv := Aside0.mk hbox; clear n0_ hb hbox hg; have cgp_0 : w_gv.cell? ⟨gp, 0, none⟩ = some (.int .i64 a0_0) := (blk_cell BKgp.out 0).trans rfl; have cgp_1 : w_gv.cell? ⟨gp, 1, none⟩ = some (.int .u64 a0_1) := (blk_cell BKgp.out 1).trans rfl; have cgp_2 : w_gv.cell? ⟨gp, 2, none⟩ = some (.int .u64 a0_2) := (blk_cell BKgp.out 2).trans rfl; have cgp_3 : w_gv.cell? ⟨gp, 3, none⟩ = some (.int .u64 a0_3) := (blk_cell BKgp.out 3).trans rfl; have cgp_4 : w_gv.cell? ⟨gp, 4, none⟩ = some (.int .u64 a0_4) := (blk_cell BKgp.out 4).trans rfl) | (go_at_call 38; refine (policy_of.other _ _ _ _ _ _ H1.out H2.out).mono ?_; rintro e w2 ⟨rfl, hb⟩; have n_gp := bb BKgp hb; have n_gc := bb BKgc hb; have n_gv := bb BKgv hb; have n0_ := bs HB hb; clear HB BKgp BKgc BKgv; have HB := n0_; clear n0_; have BKgp := n_gp; clear n_gp; have BKgc := n_gc; clear n_gc; have BKgv := n_gv; clear n_gv; clear hb))
  have GEgb : Aside0 (w.heap.size ≤ w2.heap.size) := ⟨HB.out.size⟩
  have NEgp_gb : Aside0 (gp ≠ w2.heap.size) := ⟨Nat.ne_of_lt (blk_lt BKgp.out)⟩
  have NEgc_gb : Aside0 (gc ≠ w2.heap.size) := ⟨Nat.ne_of_lt (blk_lt BKgc.out)⟩
  have NEgv_gb : Aside0 (gv ≠ w2.heap.size) := ⟨Nat.ne_of_lt (blk_lt BKgv.out)⟩
  have n_gp := Aside0.mk (blk_alloc BKgp.out (.cells #[.nilFunc, .nilFunc, .nilFunc, .nilFunc, .nilFunc, .nilFunc] 80))
  have n_gc := Aside0.mk (blk_alloc BKgc.out (.cells #[.nilFunc, .nilFunc, .nilFunc, .nilFunc, .nilFunc, .nilFunc] 80))
  have n_gv := Aside0.mk (blk_alloc BKgv.out (.cells #[.nilFunc, .nilFunc, .nilFunc, .nilFunc, .nilFunc, .nilFunc] 80))
  have BKgb : Aside0 ((w2.alloc (.cells #[.nilFunc, .nilFunc, .nilFunc, .nilFunc, .nilFunc, .nilFunc] 80)).heap[w2.heap.size]? = _) := ⟨blk_new _ _⟩
  have n0_ := Aside0.mk (below_alloc HB.out (.cells #[.nilFunc, .nilFunc, .nilFunc, .nilFunc, .nilFunc, .nilFunc] 80))
  clear HB BKgp BKgc BKgv
  have HB := n0_
  clear n0_
  have BKgp := n_gp
  have BKgc := n_gc
  have BKgv := n_gv
  clear n_gp n_gc n_gv
  generalize (w2.alloc (.cells #[.nilFunc, .nilFunc, .nilFunc, .nilFunc, .nilFunc, .nilFunc] 80)) = w3 at *
  generalize w2.heap.size = gb at *
  go_wp2_with (fail)
  go_ret
  exact ⟨rfl, HB.out⟩
theorem policy_Covers.calls (a0_0 : Int) (a0_1 : Int) (a0_2 : Int) (a0_3 : Int) (a0_4 : Int) (a1_0 : Int) (a1_1 : Int) (a1_2 : Int) (a2_0 : Int) (a2_1 : Int) (a2_2 : Int) (r : Bool) (w : World) (h : policy_Covers.f a0_0 a0_1 a0_2 a0_3 a0_4 a1_0 a1_1 a1_2 a2_0 a2_1 a2_2 = some r) :
    Calls Tryd.prog 21 #[.agg #[.int .i64 a0_0, .int .u64 a0_1, .int .u64 a0_2, .int .u64 a0_3, .int .u64 a0_4], .agg #[.int .u64 a1_0, .int .u64 a1_1, .int .u64 a1_2], .agg #[.int .u64 a2_0, .int .u64 a2_1, .int .u64 a2_2]] w fun e w' => e = .returned (.bool r) ∧ Below w.heap.size w w' := by
  unfold policy_Covers.f at h
  obtain ⟨t, ht, h⟩ := Option.bind_eq_some_iff.mp h
  rcases policy_of.parts ht with ⟨rfl, hv⟩ | ⟨rfl, hv⟩ | ⟨c1, c2, rfl⟩
  · cases t with
    | true =>
      rw [if_pos rfl, if_pos rfl] at h
      exact policy_Covers.flow a0_1 a0_2 a0_3 a0_4 a1_0 a1_1 a1_2 a2_0 a2_1 a2_2 r w hv h
    | false =>
      rw [if_neg (by decide)] at h
      obtain rfl := Option.some.inj h
      exact policy_Covers.flow_no a0_1 a0_2 a0_3 a0_4 a1_0 a1_1 a1_2 a2_0 a2_1 a2_2 w hv
  · cases t with
    | true =>
      rw [if_pos rfl, if_neg (by decide)] at h
      exact policy_Covers.grid a0_1 a0_2 a0_3 a0_4 a1_0 a1_1 a1_2 a2_0 a2_1 a2_2 r w hv h
    | false =>
      rw [if_neg (by decide)] at h
      obtain rfl := Option.some.inj h
      exact policy_Covers.grid_no a0_1 a0_2 a0_3 a0_4 a1_0 a1_1 a1_2 a2_0 a2_1 a2_2 w hv
  · rw [if_neg (by decide)] at h
    obtain rfl := Option.some.inj h
    exact policy_Covers.other a0_0 a0_1 a0_2 a0_3 a0_4 a1_0 a1_1 a1_2 a2_0 a2_1 a2_2 w c1 c2

end Go.Proofs.YtnhngjhodcikiaaDoor.F
