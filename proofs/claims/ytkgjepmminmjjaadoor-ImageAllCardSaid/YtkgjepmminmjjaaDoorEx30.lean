/- Written by the session's own program hyb.py: what functions of the program compute; Lean checks it. -/
import Derived.Test.YtkgjepmminmjjaaDoorEx0
import Derived.Test.YtkgjepmminmjjaaDoorWErr
namespace Go.Proofs.YtkgjepmminmjjaaDoor.E
open Go.RowKit Go.Proofs.YtkgjepmminmjjaaDoorW.PrintWords Go.Proofs.YtkgjepmminmjjaaDoorW.PrintLast Go.Proofs.YtkgjepmminmjjaaDoorW.PrintMore Go.Proofs.YtkgjepmminmjjaaDoorW.PrintShort
attribute [local go_sem] run_Add64 run_Sub64
attribute [local go_sem] max2_int min2_int max_two min_two max_three min_three max_four min_four   -- for this text's walks alone
set_option linter.unusedVariables false
set_option linter.unusedSimpArgs false

/-! ### turnstilesame_Of: function 56 -/
def turnstilesame_Of.f (a0 : Int) : Option (Int) := if 0 ≤ a0 then (if a0 = 0 then (some 0) else (if a0 ≤ 15 then (if a0 = 1 then (some 1) else (if a0 = 2 then (some 2) else (if a0 = 3 then (some 3) else (if a0 = 4 then (some 4) else (if a0 = 6 then (some 5) else (if a0 = 7 then (some 6) else (if a0 = 8 then (some 7) else (if a0 = 9 then (some 8) else (if a0 = 10 then (some 9) else (if a0 = 11 then (some 10) else (if a0 = 12 then (some 11) else (if a0 = 13 then (some 12) else (if a0 = 14 then (some 13) else (if a0 = 15 then (some 14) else (if a0 = 5 then (some 15) else (some (-1))))))))))))))))) else (none))) else (none)
theorem turnstilesame_Of.eq_ {a k m : Int} (h : a = k) {b : Bool} (hb : (k == m) = b) : (a == m) = b := by rw [h]; exact hb
set_option maxHeartbeats 8000000 in
set_option maxRecDepth 100000 in
theorem turnstilesame_Of.calls [Errs] [ErrsAll] (a0 : Int) (r : Int) (w : World) (hE : Sent w) (h : turnstilesame_Of.f a0 = some r) :
    Calls Tryd.prog 56 #[errW a0] w fun e w' => e = .returned (.int .i64 r) ∧ Drawn0 w w' := by
  have hu37 := Tryd.underlying37
  have HERR := Aside0.mk hE
  clear hE
  by_cases c2 : 0 ≤ a0
  rotate_left
  · unfold turnstilesame_Of.f at h
    rw [if_neg c2] at h
    cases h
  by_cases c5 : a0 ≤ 15
  rotate_left
  · unfold turnstilesame_Of.f at h
    rw [if_pos c2, if_neg (by omega), if_neg c5] at h
    cases h
  have hc : a0 = 0 ∨ a0 = 1 ∨ a0 = 2 ∨ a0 = 3 ∨ a0 = 4 ∨ a0 = 5 ∨ a0 = 6 ∨ a0 = 7 ∨ a0 = 8 ∨ a0 = 9 ∨ a0 = 10 ∨ a0 = 11 ∨ a0 = 12 ∨ a0 = 13 ∨ a0 = 14 ∨ a0 = 15 := by omega
  have c2b1 : decide (0 ≤ a0) = true := decide_eq_true c2
  have c5b1 : decide (a0 ≤ 15) = true := decide_eq_true c5
  clear c2 c5
  rcases hc with hk | hk | hk | hk | hk | hk | hk | hk | hk | hk | hk | hk | hk | hk | hk | hk
  all_goals
    rw [hk] at h
    simp [turnstilesame_Of.f] at h
    subst h
    have e0 := turnstilesame_Of.eq_ (m := 0) hk rfl
    have e1 := turnstilesame_Of.eq_ (m := 1) hk rfl
    have e2 := turnstilesame_Of.eq_ (m := 2) hk rfl
    have e3 := turnstilesame_Of.eq_ (m := 3) hk rfl
    have e4 := turnstilesame_Of.eq_ (m := 4) hk rfl
    have e5 := turnstilesame_Of.eq_ (m := 5) hk rfl
    have e6 := turnstilesame_Of.eq_ (m := 6) hk rfl
    have e7 := turnstilesame_Of.eq_ (m := 7) hk rfl
    have e8 := turnstilesame_Of.eq_ (m := 8) hk rfl
    have e9 := turnstilesame_Of.eq_ (m := 9) hk rfl
    have e10 := turnstilesame_Of.eq_ (m := 10) hk rfl
    have e11 := turnstilesame_Of.eq_ (m := 11) hk rfl
    have e12 := turnstilesame_Of.eq_ (m := 12) hk rfl
    have e13 := turnstilesame_Of.eq_ (m := 13) hk rfl
    have e14 := turnstilesame_Of.eq_ (m := 14) hk rfl
    have e15 := turnstilesame_Of.eq_ (m := 15) hk rfl
    simp only [Int.reduceBEq] at e0 e1 e2 e3 e4 e5 e6 e7 e8 e9 e10 e11 e12 e13 e14 e15
    clear hk
    go_enter Tryd.func56, Tryd.ntmps56
    go_wp2_with (first | ((with_reducible refine gate_dst (N := 5) rfl ?_); refine eqn_err a0 (b := (a0 == 0)) ?_ rfl (of_decide_eq_true (by first | (with_reducible assumption) | assumption))) | ((with_reducible refine gate_dst (N := 7) rfl ?_); refine ld_err 1 0 (sd HERR) ?_ rfl rfl (by decide) (by have := ErrsAll.all; omega) rfl) | ((with_reducible refine gate_dst (N := 8) rfl ?_); refine eq_err a0 1 (b := (a0 == 1)) (sd HERR) ?_ rfl (of_decide_eq_true (by first | (with_reducible assumption) | assumption)) (Int.le_trans (of_decide_eq_true (by first | (with_reducible assumption) | assumption) : a0 ≤ 15) ErrsAll.all) (by decide) (by have := ErrsAll.all; omega)) | ((with_reducible refine gate_dst (N := 10) rfl ?_); refine ld_err 2 1 (sd HERR) ?_ rfl rfl (by decide) (by have := ErrsAll.all; omega) rfl) | ((with_reducible refine gate_dst (N := 11) rfl ?_); refine eq_err a0 2 (b := (a0 == 2)) (sd HERR) ?_ rfl (of_decide_eq_true (by first | (with_reducible assumption) | assumption)) (Int.le_trans (of_decide_eq_true (by first | (with_reducible assumption) | assumption) : a0 ≤ 15) ErrsAll.all) (by decide) (by have := ErrsAll.all; omega)) | ((with_reducible refine gate_dst (N := 13) rfl ?_); refine ld_err 3 2 (sd HERR) ?_ rfl rfl (by decide) (by have := ErrsAll.all; omega) rfl) | ((with_reducible refine gate_dst (N := 14) rfl ?_); refine eq_err a0 3 (b := (a0 == 3)) (sd HERR) ?_ rfl (of_decide_eq_true (by first | (with_reducible assumption) | assumption)) (Int.le_trans (of_decide_eq_true (by first | (with_reducible assumption) | assumption) : a0 ≤ 15) ErrsAll.all) (by decide) (by have := ErrsAll.all; omega)) | ((with_reducible refine gate_dst (N := 16) rfl ?_); refine ld_err 4 4 (sd HERR) ?_ rfl rfl (by decide) (by have := ErrsAll.all; omega) rfl) | ((with_reducible refine gate_dst (N := 17) rfl ?_); refine eq_err a0 4 (b := (a0 == 4)) (sd HERR) ?_ rfl (of_decide_eq_true (by first | (with_reducible assumption) | assumption)) (Int.le_trans (of_decide_eq_true (by first | (with_reducible assumption) | assumption) : a0 ≤ 15) ErrsAll.all) (by decide) (by have := ErrsAll.all; omega)) | ((with_reducible refine gate_dst (N := 19) rfl ?_); refine ld_err 6 3 (sd HERR) ?_ rfl rfl (by decide) (by have := ErrsAll.all; omega) rfl) | ((with_reducible refine gate_dst (N := 20) rfl ?_); refine eq_err a0 6 (b := (a0 == 6)) (sd HERR) ?_ rfl (of_decide_eq_true (by first | (with_reducible assumption) | assumption)) (Int.le_trans (of_decide_eq_true (by first | (with_reducible assumption) | assumption) : a0 ≤ 15) ErrsAll.all) (by decide) (by have := ErrsAll.all; omega)) | ((with_reducible refine gate_dst (N := 22) rfl ?_); refine ld_err 7 6 (sd HERR) ?_ rfl rfl (by decide) (by have := ErrsAll.all; omega) rfl) | ((with_reducible refine gate_dst (N := 23) rfl ?_); refine eq_err a0 7 (b := (a0 == 7)) (sd HERR) ?_ rfl (of_decide_eq_true (by first | (with_reducible assumption) | assumption)) (Int.le_trans (of_decide_eq_true (by first | (with_reducible assumption) | assumption) : a0 ≤ 15) ErrsAll.all) (by decide) (by have := ErrsAll.all; omega)) | ((with_reducible refine gate_dst (N := 25) rfl ?_); refine ld_err 8 7 (sd HERR) ?_ rfl rfl (by decide) (by have := ErrsAll.all; omega) rfl) | ((with_reducible refine gate_dst (N := 26) rfl ?_); refine eq_err a0 8 (b := (a0 == 8)) (sd HERR) ?_ rfl (of_decide_eq_true (by first | (with_reducible assumption) | assumption)) (Int.le_trans (of_decide_eq_true (by first | (with_reducible assumption) | assumption) : a0 ≤ 15) ErrsAll.all) (by decide) (by have := ErrsAll.all; omega)) | ((with_reducible refine gate_dst (N := 28) rfl ?_); refine ld_err 9 8 (sd HERR) ?_ rfl rfl (by decide) (by have := ErrsAll.all; omega) rfl) | ((with_reducible refine gate_dst (N := 29) rfl ?_); refine eq_err a0 9 (b := (a0 == 9)) (sd HERR) ?_ rfl (of_decide_eq_true (by first | (with_reducible assumption) | assumption)) (Int.le_trans (of_decide_eq_true (by first | (with_reducible assumption) | assumption) : a0 ≤ 15) ErrsAll.all) (by decide) (by have := ErrsAll.all; omega)) | ((with_reducible refine gate_dst (N := 31) rfl ?_); refine ld_err 10 9 (sd HERR) ?_ rfl rfl (by decide) (by have := ErrsAll.all; omega) rfl) | ((with_reducible refine gate_dst (N := 32) rfl ?_); refine eq_err a0 10 (b := (a0 == 10)) (sd HERR) ?_ rfl (of_decide_eq_true (by first | (with_reducible assumption) | assumption)) (Int.le_trans (of_decide_eq_true (by first | (with_reducible assumption) | assumption) : a0 ≤ 15) ErrsAll.all) (by decide) (by have := ErrsAll.all; omega)) | ((with_reducible refine gate_dst (N := 34) rfl ?_); refine ld_err 11 10 (sd HERR) ?_ rfl rfl (by decide) (by have := ErrsAll.all; omega) rfl) | ((with_reducible refine gate_dst (N := 35) rfl ?_); refine eq_err a0 11 (b := (a0 == 11)) (sd HERR) ?_ rfl (of_decide_eq_true (by first | (with_reducible assumption) | assumption)) (Int.le_trans (of_decide_eq_true (by first | (with_reducible assumption) | assumption) : a0 ≤ 15) ErrsAll.all) (by decide) (by have := ErrsAll.all; omega)) | ((with_reducible refine gate_dst (N := 37) rfl ?_); refine ld_err 12 11 (sd HERR) ?_ rfl rfl (by decide) (by have := ErrsAll.all; omega) rfl) | ((with_reducible refine gate_dst (N := 38) rfl ?_); refine eq_err a0 12 (b := (a0 == 12)) (sd HERR) ?_ rfl (of_decide_eq_true (by first | (with_reducible assumption) | assumption)) (Int.le_trans (of_decide_eq_true (by first | (with_reducible assumption) | assumption) : a0 ≤ 15) ErrsAll.all) (by decide) (by have := ErrsAll.all; omega)) | ((with_reducible refine gate_dst (N := 40) rfl ?_); refine ld_err 13 12 (sd HERR) ?_ rfl rfl (by decide) (by have := ErrsAll.all; omega) rfl) | ((with_reducible refine gate_dst (N := 41) rfl ?_); refine eq_err a0 13 (b := (a0 == 13)) (sd HERR) ?_ rfl (of_decide_eq_true (by first | (with_reducible assumption) | assumption)) (Int.le_trans (of_decide_eq_true (by first | (with_reducible assumption) | assumption) : a0 ≤ 15) ErrsAll.all) (by decide) (by have := ErrsAll.all; omega)) | ((with_reducible refine gate_dst (N := 43) rfl ?_); refine ld_err 14 13 (sd HERR) ?_ rfl rfl (by decide) (by have := ErrsAll.all; omega) rfl) | ((with_reducible refine gate_dst (N := 44) rfl ?_); refine eq_err a0 14 (b := (a0 == 14)) (sd HERR) ?_ rfl (of_decide_eq_true (by first | (with_reducible assumption) | assumption)) (Int.le_trans (of_decide_eq_true (by first | (with_reducible assumption) | assumption) : a0 ≤ 15) ErrsAll.all) (by decide) (by have := ErrsAll.all; omega)) | ((with_reducible refine gate_dst (N := 46) rfl ?_); refine ld_err 15 14 (sd HERR) ?_ rfl rfl (by decide) (by have := ErrsAll.all; omega) rfl) | ((with_reducible refine gate_dst (N := 47) rfl ?_); refine eq_err a0 15 (b := (a0 == 15)) (sd HERR) ?_ rfl (of_decide_eq_true (by first | (with_reducible assumption) | assumption)) (Int.le_trans (of_decide_eq_true (by first | (with_reducible assumption) | assumption) : a0 ≤ 15) ErrsAll.all) (by decide) (by have := ErrsAll.all; omega)) | ((with_reducible refine gate_dst (N := 49) rfl ?_); refine ld_err 5 5 (sd HERR) ?_ rfl rfl (by decide) (by have := ErrsAll.all; omega) rfl) | ((with_reducible refine gate_dst (N := 50) rfl ?_); refine eq_err a0 5 (b := (a0 == 5)) (sd HERR) ?_ rfl (of_decide_eq_true (by first | (with_reducible assumption) | assumption)) (Int.le_trans (of_decide_eq_true (by first | (with_reducible assumption) | assumption) : a0 ≤ 15) ErrsAll.all) (by decide) (by have := ErrsAll.all; omega)))
    go_ret
    exact ⟨rs, by repeat (first | exact Drawn0.refl _ | apply Drawn0.step)⟩

/-! ### turnstilesame_Is: function 33 -/
def turnstilesame_Is.f (a0 : Int) (a1 : Int) : Option (Bool) := (turnstilesame_Of.f a0).bind fun t368 => (some (t368 == a1))
set_option maxHeartbeats 8000000 in
set_option maxRecDepth 100000 in
theorem turnstilesame_Is.calls [Errs] [ErrsAll] (a0 : Int) (a1 : Int) (r : Bool) (w : World) (hE : Sent w) (h : turnstilesame_Is.f a0 a1 = some r) :
    Calls Tryd.prog 33 #[errW a0, .int .i64 a1] w fun e w' => e = .returned (.bool r) ∧ Drawn0 w w' := by
  have HERR := Aside0.mk hE
  clear hE
  have H : ((turnstilesame_Of.f a0).bind fun t368 => (some (t368 == a1))) = some r := h
  clear h
  replace H := Option.bind_eq_some_iff.mp H
  obtain ⟨t368, A30, H⟩ := H
  replace H : (some (t368 == a1)) = some r := H
  have A3 := Aside0.mk A30
  clear A30
  obtain rfl := Option.some.inj H
  go_enter Tryd.func33, Tryd.ntmps33
  go_wp2_with (first | ((with_reducible refine gate_callee (f := 56) rfl ?_); refine gl (some 6) Tryd.func56 #[errW a0] ?_; (with_reducible refine (turnstilesame_Of.calls a0 t368 _ ?side1 A3.out).mono ?_); (case side1 => exact (sd HERR)); rintro e w' ⟨rfl, ⟨nd, rfl⟩⟩; refine ⟨_, rfl, ?_⟩))
  go_ret
  exact ⟨rs, by repeat (first | exact Drawn0.refl _ | apply Drawn0.step)⟩

/-! ### turnstileref11_Put: function 53 -/
def turnstileref11_Put.l0 : Nat → List Int → Int → Int → Int → Option (List Int)
  | 0, _, _, _, _ => none
  | k + 1, x0, x1, x2, x7 => if x7 < x2 then (if x0.length < 140737488355328 then (turnstileref11_Put.l0 k (x0 ++ [(Int.tmod x1 256) % 256]) (IntKind.u64.wrap (Int.tdiv x1 256)) x2 (wrap64 (x7 + 1))) else (none)) else (some x0)
def turnstileref11_Put.f (k : Nat) (l0 : List Int) (a1 : Int) (a2 : Int) : Option (List Int) := turnstileref11_Put.l0 k l0 a1 a2 0
set_option maxHeartbeats 8000000 in
set_option maxRecDepth 100000 in
theorem turnstileref11_Put.calls (k : Nat) (P0_ : Nat → Prop) (u9000_ : Value) (l0 : List Int) (a1 : Int) (a2 : Int) (r : List Int) (w0 w : World) (hB : Below w0.heap.size w0 w) (ho0 : Kd.R (Kd.int .u8) 5 w w0.heap.size P0_ u9000_ l0) (h : turnstileref11_Put.f k l0 a1 a2 = some r) :
    Calls Tryd.prog 53 #[u9000_, .int .u64 a1, .int .i64 a2] w fun e w' => ∃ v0_ : Value, e = .returned (v0_) ∧ Kd.R (Kd.int .u8) 5 w' w0.heap.size (fun k_ => (P0_ k_ ∨ w.heap.size ≤ k_)) v0_ r ∧ Below w0.heap.size w0 w' ∧ Kept w w' (fun k_ => P0_ k_) := by
  have HO0 := Aside0.mk (show Kd.R (Kd.int .u8) 5 w w0.heap.size (fun k_ => (P0_ k_ ∨ w.heap.size ≤ k_)) u9000_ l0 from Kd.R_mono ho0 (fun k_ hk => (.inl hk)))
  have HK := Aside0.mk (Kept.refl w (fun k_ => P0_ k_))
  have HW0 := Aside0.mk hB.size
  have HB := Aside0.mk hB
  clear hB
  have H : (turnstileref11_Put.l0 k l0 a1 a2 0) = some r := h
  clear h
  have H' := Aside0.mk H
  clear H
  go_enter Tryd.func53, Tryd.ntmps53
  go_wp2
  go_loopg [0, 1, 7] k (fun kq v0 v1 v7 w' => ∃ (x0_1 : List Int) (x1_1 : Int) (x7_1 : Int), v1 = .int .u64 x1_1 ∧ v7 = .int .i64 x7_1 ∧ Aside0 (turnstileref11_Put.l0 kq x0_1 x1_1 a2 x7_1 = some r) ∧ Aside0 (kq ≤ k) ∧ Aside0 (Kd.R (Kd.int .u8) 5 w' w0.heap.size (fun k_ => (P0_ k_ ∨ w.heap.size ≤ k_)) v0 x0_1) ∧ Aside0 (Kept w w' (fun k_ => P0_ k_)) ∧ Aside0 (Below w0.heap.size w0 w'))
  case atStart => exact ⟨(l0), (a1), (0), rs, rs, H', ⟨Nat.le_refl _⟩, ⟨ro HO0⟩, ⟨by repeat (first | (with_reducible first | exact HK.out | apply Kept.alloc | apply Kept.drewN | apply Kept.drew) | exact HK.out)⟩, ⟨bw HB⟩⟩
  case round =>
    clear H'
    try clear p2
    obtain ⟨x0_1, x1_1, x7_1, rfl, rfl, HA, HK1, HO_0, HK, HB⟩ := hrel
    cases gk with
    | zero => exact absurd HA.out (by simp [turnstileref11_Put.l0])
    | succ k1 =>
      have H := HA.out
      clear HA
      simp only [turnstileref11_Put.l0] at H
      by_cases c4 : x7_1 < a2
      · rw [if_pos c4] at H
        have c4b0 : decide (x7_1 < a2) = true := decide_eq_true c4
        clear c4
        by_cases c5 : x0_1.length < 140737488355328
        · rw [if_pos c5] at H
          have LMc5 := Aside0.mk c5
          clear c5
          obtain ⟨y369, hy369⟩ : ∃ y_ : List Int, y_ = (x0_1 ++ [(Int.tmod x1_1 256) % 256]) := ⟨_, rfl⟩
          replace H : (turnstileref11_Put.l0 k1 y369 (IntKind.u64.wrap (Int.tdiv x1_1 256)) a2 (wrap64 (x7_1 + 1))) = some r := by first | (rw [hy369]; with_reducible exact H) | (have H2_ := (Option.bind_some _ _).symm.trans H; rw [hy369]; with_reducible exact H2_) | (have H2_ := (Option.bind_some _ _).symm.trans H; with_reducible exact H2_) | with_reducible exact H | (rw [hy369]; exact H) | exact H
          have Ny369 := Aside0.mk hy369
          clear hy369
          have H' := Aside0.mk H
          clear H
          go_wp2_with (first | ((with_reducible refine gate_builtin (b := .append) (xs := #[.tmp 13, .tmp 17]) rfl ?_); at_builtin; refine Kd.R_append (Kd.int .u8) (w0 := w0) w0.heap.size rfl (.tmp 13) (.tmp 17) 33 5 (.int .u8 0) 1 rfl Tryd.underlying33 info5 rfl (by decide) (by omega) u0 x0_1 ((Int.tmod x1_1 256) % 256) [.int .u8 ((Int.tmod x1_1 256) % 256)] (fun k_ => (P0_ k_ ∨ w.heap.size ≤ k_)) (fun _ => False) rfl rfl ?aP (fun _ hk => hk.elim) ?aF ?aO ?aB ?aS ?aL ?_; (case aP => exact rfl); (case aB => exact (bw HB)); (case aF => exact (fun k_ hk => (.inr (Nat.le_trans (by first | exact HK.out.1 | exact (show Kept w _ (fun k_ => P0_ k_) from by repeat (first | (with_reducible first | exact HK.out | apply Kept.alloc | apply Kept.drewN | apply Kept.drew) | exact HK.out)).1) hk)))); (case aO => exact (ro HO_0)); (case aS => exact (below_size (bw HB))); (case aL => have := LMc5.out; omega); intro v370 w6 ho hb hg hat; rw [← Ny369.out] at ho; have n0_ := Aside0.mk (hb); have n1_ := Aside0.mk (Kept.of_grown (S := (fun k_ => P0_ k_)) hg (by repeat (first | (with_reducible first | exact HK.out | apply Kept.alloc | apply Kept.drewN | apply Kept.drew) | exact HK.out)) (fun k_ e_ => (HO_0.out.1 k_ e_))); have n2_ := Aside0.mk (ho); clear HB; clear HK; clear HO_0; have HB := n0_; have HK := n1_; have HO371 := n2_; clear n0_ n1_ n2_; clear ho hb hg hat))
          go_roundg k1
          case measure => have := HK1.out; omega
          case rel => exact ⟨(y369), (IntKind.u64.wrap (Int.tdiv x1_1 256)), (wrap64 (x7_1 + 1)), rs, rs, H', ⟨by have := HK1.out; omega⟩, ⟨ro HO371⟩, ⟨by repeat (first | (with_reducible first | exact HK.out | apply Kept.alloc | apply Kept.drewN | apply Kept.drew) | exact HK.out)⟩, ⟨bw HB⟩⟩
        · rw [if_neg c5] at H
          exact absurd H (by simp)
      · rw [if_neg c4] at H
        have c4b0 : decide (x7_1 < a2) = false := decide_eq_false c4
        clear c4
        obtain rfl := Option.some.inj H
        go_wp2
        go_ret
        exact ⟨_, re, by (with_reducible repeat (first | apply Kd.R_alloc | apply Kd.R_drewN | apply Kd.R_drew)); exact HO_0.out, by repeat (first | (with_reducible first | exact HB.out | apply below_alloc | apply pw_below_drewN | apply below_drew1) | exact HB.out), by repeat (first | (with_reducible first | exact HK.out | apply Kept.alloc | apply Kept.drewN | apply Kept.drew) | exact HK.out)⟩

end Go.Proofs.YtkgjepmminmjjaaDoor.E
