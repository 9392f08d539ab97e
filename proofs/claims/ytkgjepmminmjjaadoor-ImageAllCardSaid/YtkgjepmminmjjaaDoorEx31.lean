/- Written by the session's own program hyb.py: what functions of the program compute; Lean checks it. -/
import Derived.Test.YtkgjepmminmjjaaDoorEx0
import Derived.Test.YtkgjepmminmjjaaDoorEx30
namespace Go.Proofs.YtkgjepmminmjjaaDoor.E
open Go.RowKit Go.Proofs.YtkgjepmminmjjaaDoorW.PrintWords Go.Proofs.YtkgjepmminmjjaaDoorW.PrintLast Go.Proofs.YtkgjepmminmjjaaDoorW.PrintMore Go.Proofs.YtkgjepmminmjjaaDoorW.PrintShort
attribute [local go_sem] run_Add64 run_Sub64
attribute [local go_sem] max2_int min2_int max_two min_two max_three min_three max_four min_four   -- for this text's walks alone
set_option linter.unusedVariables false
set_option linter.unusedSimpArgs false

/-! ### turnstileref11_PutText: function 54 -/
def turnstileref11_PutText.l0 : Nat → List Int → ByteArray → Int → Option (List Int)
  | 0, _, _, _ => none
  | k + 1, x0, x1, x5 => if x5 < (x1.size : Int) then (if 0 ≤ x5 then (if x0.length < 140737488355328 then (turnstileref11_PutText.l0 k (x0 ++ [bt x1 x5]) x1 (wrap64 (x5 + 1))) else (none)) else (none)) else (some x0)
def turnstileref11_PutText.f (k : Nat) (l0 : List Int) (a1 : ByteArray) : Option (List Int) := (turnstileref11_Put.f k l0 (IntKind.u64.wrap ((a1.size : Int))) 2).bind fun t372 => (turnstileref11_PutText.l0 k t372 a1 0)
set_option maxHeartbeats 8000000 in
set_option maxRecDepth 100000 in
theorem turnstileref11_PutText.calls (k : Nat) (P0_ : Nat → Prop) (u9000_ : Value) (l0 : List Int) (a1 : ByteArray) (r : List Int) (w0 w : World) (hB : Below w0.heap.size w0 w) (ho0 : Kd.R (Kd.int .u8) 5 w w0.heap.size P0_ u9000_ l0) (h : turnstileref11_PutText.f k l0 a1 = some r) :
 Calls Tryd.prog 54 #[u9000_, .string a1] w fun e w' => ∃ v0_ : Value, e = .returned (v0_) ∧ Kd.R (Kd.int .u8) 5 w' w0.heap.size (fun k_ => (P0_ k_ ∨ w.heap.size ≤ k_)) v0_ r ∧ Below w0.heap.size w0 w' ∧ Kept w w' (fun k_ => P0_ k_) := by
 have HO0 := Aside0.mk (show Kd.R (Kd.int .u8) 5 w w0.heap.size (fun k_ => (P0_ k_ ∨ w.heap.size ≤ k_)) u9000_ l0 from Kd.R_mono ho0 (fun k_ hk => (.inl hk)))
 have HK := Aside0.mk (Kept.refl w (fun k_ => P0_ k_))
 have HW0 := Aside0.mk hB.size; have HB := Aside0.mk hB; clear hB
 have H : ((turnstileref11_Put.f k l0 (IntKind.u64.wrap ((a1.size : Int))) 2).bind fun t372 => (turnstileref11_PutText.l0 k t372 a1 0)) = some r := h
 clear h; replace H := Option.bind_eq_some_iff.mp H
 obtain ⟨t372, A30, H⟩ := H
 replace H : (turnstileref11_PutText.l0 k t372 a1 0) = some r := H
 have A3 := Aside0.mk A30; clear A30
 have H' := Aside0.mk H
 clear H
 obtain ⟨Ao4, co4, eo4⟩ := Kd.R_slice HO0.out
 subst eo4
 go_enter Tryd.func54, Tryd.ntmps54
 go_wp2_with (first | ((with_reducible refine gate_callee (f := 53) rfl ?_); refine gl (some 10) Tryd.func53 #[.slice Ao4 l0.length co4, .int .u64 (IntKind.u64.wrap ((a1.size : Int))), .int .i64 2] ?_; (with_reducible refine (turnstileref11_Put.calls k (fun k_ => some k_ = (.slice Ao4 l0.length co4 : Value).ownBlock) (.slice Ao4 l0.length co4) l0 (IntKind.u64.wrap ((a1.size : Int))) 2 t372 w0 _ ?side1 ?side2 A3.out).mono ?_); (case side1 => repeat (first | (with_reducible first | exact HB.out | apply below_alloc | apply pw_below_drewN | apply below_drew1) | exact HB.out)); (case side2 => exact Kd.R_tight rfl HO0.out); rintro e w5 ⟨v373, rfl, ho0, hb, hkp⟩; refine ⟨_, rfl, ?_⟩; have n0_ := Aside0.mk (Kd.R_mono (ok' := fun k_ => (P0_ k_ ∨ w.heap.size ≤ k_)) ho0 (fun k_ hk_ => Or.elim hk_ (fun hs_ => (HO0.out.1 k_ (hs_).symm)) (fun hn_ => (.inr (Nat.le_trans (by first | exact HK.out.1 | exact (show Kept w _ (fun k_ => P0_ k_) from by repeat (first | (with_reducible first | exact HK.out | apply Kept.alloc | apply Kept.drewN | apply Kept.drew) | exact HK.out)).1) hn_))))); have n1_ := Aside0.mk (Kept.then_ (S := (fun k_ => P0_ k_)) (by repeat (first | (with_reducible first | exact HK.out | apply Kept.alloc | apply Kept.drewN | apply Kept.drew) | exact HK.out)) hkp (fun k_ hs_ => (fun e_ => (HO0.out.1 k_ e_.symm)) hs_)); have n2_ := Aside0.mk (hb); clear HK; clear HB; clear HO0; have HO374 := n0_; have HK := n1_; have HB := n2_; clear n0_ n1_ n2_; (try clear hb); (try clear hkp); (try clear ho0)))
 go_loopg [0, 5] k (fun kq v0 v5 w' => ∃ (x0_1 : List Int) (x5_1 : Int), v5 = .int .i64 x5_1 ∧ Aside0 (turnstileref11_PutText.l0 kq x0_1 a1 x5_1 = some r) ∧ Aside0 (kq ≤ k) ∧ Aside0 (Kd.R (Kd.int .u8) 5 w' w0.heap.size (fun k_ => (P0_ k_ ∨ w.heap.size ≤ k_)) v0 x0_1) ∧ Aside0 (Kept w w' (fun k_ => P0_ k_)) ∧ Aside0 (Below w0.heap.size w0 w'))
 case atStart => exact ⟨(t372), (0), rs, H', ⟨Nat.le_refl _⟩, ⟨ro HO374⟩, ⟨by repeat (first | (with_reducible first | exact HK.out | apply Kept.alloc | apply Kept.drewN | apply Kept.drew) | exact HK.out)⟩, ⟨bw HB⟩⟩
 case round =>
  clear H'; (try clear p2); (try clear c5)
  obtain ⟨x0_1, x5_1, rfl, HA, HK1, HO_0, HK, HB⟩ := hrel
  cases gk with
  | zero => exact absurd HA.out (by simp [turnstileref11_PutText.l0])
  | succ k1 =>
   have H := HA.out; clear HA
   simp only [turnstileref11_PutText.l0] at H
   by_cases c6 : x5_1 < (a1.size : Int)
   · rw [if_pos c6] at H
     have c6b0 : decide (x5_1 < (a1.size : Int)) = true := decide_eq_true c6
     clear c6
     by_cases c7 : 0 ≤ x5_1
     · rw [if_pos c7] at H
       have c7b0 : decide (0 ≤ x5_1) = true := decide_eq_true c7
       clear c7
       by_cases c9 : x0_1.length < 140737488355328
       · rw [if_pos c9] at H
         have LMc9 := Aside0.mk c9; clear c9
         obtain ⟨y375, hy375⟩ : ∃ y_ : List Int, y_ = (x0_1 ++ [bt a1 x5_1]) := ⟨_, rfl⟩
         replace H : (turnstileref11_PutText.l0 k1 y375 a1 (wrap64 (x5_1 + 1))) = some r := by first | (rw [hy375]; with_reducible exact H) | (have H2_ := (Option.bind_some _ _).symm.trans H; rw [hy375]; with_reducible exact H2_) | (have H2_ := (Option.bind_some _ _).symm.trans H; with_reducible exact H2_) | with_reducible exact H | (rw [hy375]; exact H) | exact H
         have Ny375 := Aside0.mk hy375; clear hy375
         have H' := Aside0.mk H
         clear H
         have p8 : 0 ≤ (x5_1 : Int) := of_decide_eq_true (by first | (with_reducible assumption) | assumption)
         have q8 : x5_1 < (a1.size : Int) := of_decide_eq_true (by first | (with_reducible assumption) | assumption)
         have hx8 := bt_at a1 x5_1; replace p8 := eq_true p8; replace q8 := eq_true q8
         go_wp2_with (first | ((with_reducible refine gate_builtin (b := .append) (xs := #[.tmp 17, .tmp 21]) rfl ?_); at_builtin; refine Kd.R_append (Kd.int .u8) (w0 := w0) w0.heap.size rfl (.tmp 17) (.tmp 21) 33 5 (.int .u8 0) 1 rfl Tryd.underlying33 info5 rfl (by decide) (by omega) u0 x0_1 (bt a1 x5_1) [.int .u8 (bt a1 x5_1)] (fun k_ => (P0_ k_ ∨ w.heap.size ≤ k_)) (fun _ => False) rfl rfl ?aP (fun _ hk => hk.elim) ?aF ?aO ?aB ?aS ?aL ?_; (case aP => exact rfl); (case aB => exact (bw HB)); (case aF => exact (fun k_ hk => (.inr (Nat.le_trans (by first | exact HK.out.1 | exact (show Kept w _ (fun k_ => P0_ k_) from by repeat (first | (with_reducible first | exact HK.out | apply Kept.alloc | apply Kept.drewN | apply Kept.drew) | exact HK.out)).1) hk)))); (case aO => exact (ro HO_0)); (case aS => exact (below_size (bw HB))); (case aL => have := LMc9.out; omega); intro v376 w10 ho hb hg hat; rw [← Ny375.out] at ho; have n0_ := Aside0.mk (hb); have n1_ := Aside0.mk (Kept.of_grown (S := (fun k_ => P0_ k_)) hg (by repeat (first | (with_reducible first | exact HK.out | apply Kept.alloc | apply Kept.drewN | apply Kept.drew) | exact HK.out)) (fun k_ e_ => (HO_0.out.1 k_ e_))); have n2_ := Aside0.mk (ho); clear HB; clear HK; clear HO_0; have HB := n0_; have HK := n1_; have HO377 := n2_; clear n0_ n1_ n2_; clear ho hb hg hat))
         go_roundg k1
         case measure => have := HK1.out; omega
         case rel => exact ⟨(y375), (wrap64 (x5_1 + 1)), rs, H', ⟨by have := HK1.out; omega⟩, ⟨ro HO377⟩, ⟨by repeat (first | (with_reducible first | exact HK.out | apply Kept.alloc | apply Kept.drewN | apply Kept.drew) | exact HK.out)⟩, ⟨bw HB⟩⟩
       · rw [if_neg c9] at H
         exact absurd H (by simp)
     · rw [if_neg c7] at H
       exact absurd H (by simp)
   · rw [if_neg c6] at H
     have c6b0 : decide (x5_1 < (a1.size : Int)) = false := decide_eq_false c6
     clear c6
     obtain rfl := Option.some.inj H
     go_wp2
     go_ret
     exact ⟨_, re, by (with_reducible repeat (first | apply Kd.R_alloc | apply Kd.R_drewN | apply Kd.R_drew)); exact HO_0.out, by repeat (first | (with_reducible first | exact HB.out | apply below_alloc | apply pw_below_drewN | apply below_drew1) | exact HB.out), by repeat (first | (with_reducible first | exact HK.out | apply Kept.alloc | apply Kept.drewN | apply Kept.drew) | exact HK.out)⟩

/-! ### turnstileref11_PutPolicy: function 55 -/
def turnstileref11_PutPolicy.f (k : Nat) (l0 : List Int) (a1_0 : Int) (a1_1 : Int) (a1_2 : Int) (a1_3 : Int) (a1_4 : Int) : Option (List Int) := if l0.length < 140737488355328 then ((some (l0 ++ [(a1_0) % 256] : List Int)).bind fun y379 => (if a1_0 = 1 then ((turnstileref11_Put.f k y379 a1_1 8).bind fun t382 => ((turnstileref11_Put.f k t382 a1_2 8).bind fun t385 => (some t385))) else ((turnstileref11_Put.f k y379 a1_3 8).bind fun t388 => ((turnstileref11_Put.f k t388 a1_4 8).bind fun t391 => (some t391))))) else (none)
set_option maxHeartbeats 8000000 in
set_option maxRecDepth 100000 in
theorem turnstileref11_PutPolicy.calls (k : Nat) (P0_ : Nat → Prop) (u9000_ : Value) (l0 : List Int) (a1_0 : Int) (a1_1 : Int) (a1_2 : Int) (a1_3 : Int) (a1_4 : Int) (r : List Int) (w0 w : World) (hB : Below w0.heap.size w0 w) (ho0 : Kd.R (Kd.int .u8) 5 w w0.heap.size P0_ u9000_ l0) (h : turnstileref11_PutPolicy.f k l0 a1_0 a1_1 a1_2 a1_3 a1_4 = some r) :
 Calls Tryd.prog 55 #[u9000_, .agg #[.int .i64 a1_0, .int .u64 a1_1, .int .u64 a1_2, .int .u64 a1_3, .int .u64 a1_4]] w fun e w' => ∃ v0_ : Value, e = .returned (v0_) ∧ Kd.R (Kd.int .u8) 5 w' w0.heap.size (fun k_ => (P0_ k_ ∨ w.heap.size ≤ k_)) v0_ r ∧ Below w0.heap.size w0 w' ∧ Kept w w' (fun k_ => P0_ k_) := by
 have hu28 := Tryd.underlying28
 have HO0 := Aside0.mk (show Kd.R (Kd.int .u8) 5 w w0.heap.size (fun k_ => (P0_ k_ ∨ w.heap.size ≤ k_)) u9000_ l0 from Kd.R_mono ho0 (fun k_ hk => (.inl hk)))
 have HK := Aside0.mk (Kept.refl w (fun k_ => P0_ k_))
 have HW0 := Aside0.mk hB.size; have HB := Aside0.mk hB; clear hB
 have H : (if l0.length < 140737488355328 then ((some (l0 ++ [(a1_0) % 256] : List Int)).bind fun y379 => (if a1_0 = 1 then ((turnstileref11_Put.f k y379 a1_1 8).bind fun t382 => ((turnstileref11_Put.f k t382 a1_2 8).bind fun t385 => (some t385))) else ((turnstileref11_Put.f k y379 a1_3 8).bind fun t388 => ((turnstileref11_Put.f k t388 a1_4 8).bind fun t391 => (some t391))))) else (none)) = some r := h
 clear h
 by_cases c3 : l0.length < 140737488355328
 · rw [if_pos c3] at H
   have LMc3 := Aside0.mk c3; clear c3
   obtain ⟨y379, hy379⟩ : ∃ y_ : List Int, y_ = (l0 ++ [(a1_0) % 256]) := ⟨_, rfl⟩
   replace H : (if a1_0 = 1 then ((turnstileref11_Put.f k y379 a1_1 8).bind fun t382 => ((turnstileref11_Put.f k t382 a1_2 8).bind fun t385 => (some t385))) else ((turnstileref11_Put.f k y379 a1_3 8).bind fun t388 => ((turnstileref11_Put.f k t388 a1_4 8).bind fun t391 => (some t391)))) = some r := by first | (rw [hy379]; with_reducible exact H) | (have H2_ := (Option.bind_some _ _).symm.trans H; rw [hy379]; with_reducible exact H2_) | (have H2_ := (Option.bind_some _ _).symm.trans H; with_reducible exact H2_) | with_reducible exact H | (rw [hy379]; exact H) | exact H
   have Ny379 := Aside0.mk hy379; clear hy379
   by_cases c4 : a1_0 = 1
   · rw [if_pos c4] at H
     have c4b0 : (a1_0 == 1) = true := beq_iff_eq.mpr c4
     have c4b1 : (a1_0 != 1) = false := bne_eq_false_iff_eq.mpr c4
     clear c4; replace H := Option.bind_eq_some_iff.mp H
     obtain ⟨t382, A50, H⟩ := H
     replace H : ((turnstileref11_Put.f k t382 a1_2 8).bind fun t385 => (some t385)) = some r := H
     have A5 := Aside0.mk A50; clear A50; replace H := Option.bind_eq_some_iff.mp H
     obtain ⟨t385, A60, H⟩ := H
     replace H : (some t385) = some r := H
     have A6 := Aside0.mk A60; clear A60
     obtain rfl := Option.some.inj H
     go_enter Tryd.func55, Tryd.ntmps55
     go_wp2_with (first | ((with_reducible refine gate_dst (N := 3) rfl ?_); refine bx 3 #[.int .i64 a1_0, .int .u64 a1_1, .int .u64 a1_2, .int .u64 a1_3, .int .u64 a1_4] 28 ?_; intro gb378 hg w7 hbox hb; have n0_ := Aside0.mk (Kd.R_below (ro HO0) hb); have n1_ := Aside0.mk (Kept.below (S := (fun k_ => P0_ k_)) (by repeat (first | (with_reducible first | exact HK.out | apply Kept.alloc | apply Kept.drewN | apply Kept.drew) | exact HK.out)) hb); have n2_ := bs HB hb; have n3_ := Aside0.mk (hbox); have n4_ := Aside0.mk ((by rw [hg]; exact (by first | exact HK.out.1 | exact (show Kept w _ (fun k_ => P0_ k_) from by repeat (first | (with_reducible first | exact HK.out | apply Kept.alloc | apply Kept.drewN | apply Kept.drew) | exact HK.out)).1) : w.heap.size ≤ gb378)); have n5_ := Aside0.mk ((by rw [hg]; exact (below_size (bw HB)) : w0.heap.size ≤ gb378)); clear HO0; clear HK; clear HB; have HO0 := n0_; have HK := n1_; have HB := n2_; have BK378 := n3_; have GW378 := n4_; have GE378 := n5_; clear n0_ n1_ n2_ n3_ n4_ n5_; clear hb hbox hg; obtain ⟨hcz8_0, hcz8_1, hcz8_2, hcz8_3, hcz8_4, hfz8_0, hfz8_1, hfz8_2, hfz8_3, hfz8_4⟩ := bc5 BK378) | ((with_reducible refine gate_builtin (b := .append) (xs := #[.tmp 5, .tmp 9]) rfl ?_); at_builtin; refine Kd.R_append (Kd.int .u8) (w0 := w0) w0.heap.size rfl (.tmp 5) (.tmp 9) 33 5 (.int .u8 0) 1 rfl Tryd.underlying33 info5 rfl (by decide) (by omega) u9000_ l0 ((a1_0) % 256) [.int .u8 ((a1_0) % 256)] (fun k_ => (P0_ k_ ∨ w.heap.size ≤ k_)) (fun _ => False) rfl rfl ?aP (fun _ hk => hk.elim) ?aF ?aO ?aB ?aS ?aL ?_; (case aP => exact rfl); (case aB => exact (bw HB)); (case aF => exact (fun k_ hk => (.inr (Nat.le_trans (by first | exact HK.out.1 | exact (show Kept w _ (fun k_ => P0_ k_) from by repeat (first | (with_reducible first | exact HK.out | apply Kept.alloc | apply Kept.drewN | apply Kept.drew | refine Kept.setCell ?_ (.inr GW378.out) _) | exact HK.out)).1) hk)))); (case aO => exact (ro HO0)); (case aS => exact (below_size (bw HB))); (case aL => have := LMc3.out; omega); intro v380 w9 ho hb hg hat; rw [← Ny379.out] at ho; have n0_ := Aside0.mk (blk_grown (g := gb378) (o := .cells #[.int .i64 a1_0, .int .u64 a1_1, .int .u64 a1_2, .int .u64 a1_3, .int .u64 a1_4] 28 (0, 0)) (bk BK378) hg (Kd.R_ne HO0.out BK378.out (by decide))); have n1_ := Aside0.mk (hb); have n2_ := Aside0.mk (Kept.of_grown (S := (fun k_ => P0_ k_)) hg (by repeat (first | (with_reducible first | exact HK.out | apply Kept.alloc | apply Kept.drewN | apply Kept.drew | refine Kept.setCell ?_ (.inr GW378.out) _) | exact HK.out)) (fun k_ e_ => (HO0.out.1 k_ e_))); have n3_ := Aside0.mk (ho); clear BK378; clear HB; clear HK; clear HO0; have BK378 := n0_; have HB := n1_; have HK := n2_; have HO381 := n3_; clear n0_ n1_ n2_ n3_; clear ho hb hg hat; obtain ⟨hcz10_0, hcz10_1, hcz10_2, hcz10_3, hcz10_4, hfz10_0, hfz10_1, hfz10_2, hfz10_3, hfz10_4⟩ := bc5 BK378; obtain ⟨Ao11, co11, eo11⟩ := Kd.R_slice HO381.out; subst eo11) | ((with_reducible refine gate_callee (f := 53) rfl ?_); refine gl (some 17) Tryd.func53 #[.slice Ao11 y379.length co11, .int .u64 a1_1, .int .i64 8] ?_; (with_reducible refine (turnstileref11_Put.calls k (fun k_ => some k_ = (.slice Ao11 y379.length co11 : Value).ownBlock) (.slice Ao11 y379.length co11) y379 a1_1 8 t382 w0 _ ?side1 ?side2 A5.out).mono ?_); (case side1 => repeat (first | (with_reducible first | exact HB.out | apply below_alloc | apply pw_below_drewN | apply below_drew1 | refine below_set ?_ GE378.out) | exact HB.out)); (case side2 => exact Kd.R_tight rfl HO381.out); rintro e w12 ⟨v383, rfl, ho0, hb, hkp⟩; refine ⟨_, rfl, ?_⟩; have n0_ := Aside0.mk (blk_kept (bk BK378) hkp (fun hs_ => (fun e_ => (Kd.R_ne HO381.out BK378.out (by decide)) e_) hs_)); have n1_ := Aside0.mk (Kd.R_mono (ok' := fun k_ => (P0_ k_ ∨ w.heap.size ≤ k_)) ho0 (fun k_ hk_ => Or.elim hk_ (fun hs_ => (HO381.out.1 k_ (hs_).symm)) (fun hn_ => (.inr (Nat.le_trans (by first | exact HK.out.1 | exact (show Kept w _ (fun k_ => P0_ k_) from by repeat (first | (with_reducible first | exact HK.out | apply Kept.alloc | apply Kept.drewN | apply Kept.drew | refine Kept.setCell ?_ (.inr GW378.out) _) | exact HK.out)).1) hn_))))); have n2_ := Aside0.mk (Kept.then_ (S := (fun k_ => P0_ k_)) (by repeat (first | (with_reducible first | exact HK.out | apply Kept.alloc | apply Kept.drewN | apply Kept.drew | refine Kept.setCell ?_ (.inr GW378.out) _) | exact HK.out)) hkp (fun k_ hs_ => (fun e_ => (HO381.out.1 k_ e_.symm)) hs_)); have n3_ := Aside0.mk (hb); clear BK378; clear HK; clear HB; clear HO381; have BK378 := n0_; have HO384 := n1_; have HK := n2_; have HB := n3_; clear n0_ n1_ n2_ n3_; (try clear hb); (try clear hkp); (try clear ho0); obtain ⟨hcz13_0, hcz13_1, hcz13_2, hcz13_3, hcz13_4, hfz13_0, hfz13_1, hfz13_2, hfz13_3, hfz13_4⟩ := bc5 BK378; obtain ⟨Ao14, co14, eo14⟩ := Kd.R_slice HO384.out; subst eo14) | ((with_reducible refine gate_callee (f := 53) rfl ?_); refine gl (some 21) Tryd.func53 #[.slice Ao14 t382.length co14, .int .u64 a1_2, .int .i64 8] ?_; (with_reducible refine (turnstileref11_Put.calls k (fun k_ => some k_ = (.slice Ao14 t382.length co14 : Value).ownBlock) (.slice Ao14 t382.length co14) t382 a1_2 8 t385 w0 _ ?side1 ?side2 A6.out).mono ?_); (case side1 => repeat (first | (with_reducible first | exact HB.out | apply below_alloc | apply pw_below_drewN | apply below_drew1 | refine below_set ?_ GE378.out) | exact HB.out)); (case side2 => exact Kd.R_tight rfl HO384.out); rintro e w15 ⟨v386, rfl, ho0, hb, hkp⟩; refine ⟨_, rfl, ?_⟩; have n0_ := Aside0.mk (blk_kept (bk BK378) hkp (fun hs_ => (fun e_ => (Kd.R_ne HO384.out BK378.out (by decide)) e_) hs_)); have n1_ := Aside0.mk (Kd.R_mono (ok' := fun k_ => (P0_ k_ ∨ w.heap.size ≤ k_)) ho0 (fun k_ hk_ => Or.elim hk_ (fun hs_ => (HO384.out.1 k_ (hs_).symm)) (fun hn_ => (.inr (Nat.le_trans (by first | exact HK.out.1 | exact (show Kept w _ (fun k_ => P0_ k_) from by repeat (first | (with_reducible first | exact HK.out | apply Kept.alloc | apply Kept.drewN | apply Kept.drew | refine Kept.setCell ?_ (.inr GW378.out) _) | exact HK.out)).1) hn_))))); have n2_ := Aside0.mk (Kept.then_ (S := (fun k_ => P0_ k_)) (by repeat (first | (with_reducible first | exact HK.out | apply Kept.alloc | apply Kept.drewN | apply Kept.drew | refine Kept.setCell ?_ (.inr GW378.out) _) | exact HK.out)) hkp (fun k_ hs_ => (fun e_ => (HO384.out.1 k_ e_.symm)) hs_)); have n3_ := Aside0.mk (hb); clear BK378; clear HK; clear HB; clear HO384; have BK378 := n0_; have HO387 := n1_; have HK := n2_; have HB := n3_; clear n0_ n1_ n2_ n3_; (try clear hb); (try clear hkp); (try clear ho0)))
     go_ret
     exact ⟨_, re, by (with_reducible repeat (first | apply Kd.R_alloc | apply Kd.R_drewN | apply Kd.R_drew)); exact HO387.out, by repeat (first | (with_reducible first | exact HB.out | apply below_alloc | apply pw_below_drewN | apply below_drew1 | refine below_set ?_ GE378.out) | exact HB.out), by repeat (first | (with_reducible first | exact HK.out | apply Kept.alloc | apply Kept.drewN | apply Kept.drew | refine Kept.setCell ?_ (.inr GW378.out) _) | exact HK.out)⟩
   · rw [if_neg c4] at H
     have c4b0 : (a1_0 == 1) = false := beq_eq_false_iff_ne.mpr c4
     have c4b1 : (a1_0 != 1) = true := bne_iff_ne.mpr c4
     replace H := Option.bind_eq_some_iff.mp H
     obtain ⟨t388, A160, H⟩ := H
     replace H : ((turnstileref11_Put.f k t388 a1_4 8).bind fun t391 => (some t391)) = some r := H
     have A16 := Aside0.mk A160; clear A160; replace H := Option.bind_eq_some_iff.mp H
     obtain ⟨t391, A170, H⟩ := H
     replace H : (some t391) = some r := H
     have A17 := Aside0.mk A170; clear A170
     obtain rfl := Option.some.inj H
     go_enter Tryd.func55, Tryd.ntmps55
     go_wp2_with (first | ((with_reducible refine gate_dst (N := 3) rfl ?_); refine bx 3 #[.int .i64 a1_0, .int .u64 a1_1, .int .u64 a1_2, .int .u64 a1_3, .int .u64 a1_4] 28 ?_; intro gb378 hg w18 hbox hb; have n0_ := Aside0.mk (Kd.R_below (ro HO0) hb); have n1_ := Aside0.mk (Kept.below (S := (fun k_ => P0_ k_)) (by repeat (first | (with_reducible first | exact HK.out | apply Kept.alloc | apply Kept.drewN | apply Kept.drew) | exact HK.out)) hb); have n2_ := bs HB hb; have n3_ := Aside0.mk (hbox); have n4_ := Aside0.mk ((by rw [hg]; exact (by first | exact HK.out.1 | exact (show Kept w _ (fun k_ => P0_ k_) from by repeat (first | (with_reducible first | exact HK.out | apply Kept.alloc | apply Kept.drewN | apply Kept.drew) | exact HK.out)).1) : w.heap.size ≤ gb378)); have n5_ := Aside0.mk ((by rw [hg]; exact (below_size (bw HB)) : w0.heap.size ≤ gb378)); clear HO0; clear HK; clear HB; have HO0 := n0_; have HK := n1_; have HB := n2_; have BK378 := n3_; have GW378 := n4_; have GE378 := n5_; clear n0_ n1_ n2_ n3_ n4_ n5_; clear hb hbox hg; obtain ⟨hcz19_0, hcz19_1, hcz19_2, hcz19_3, hcz19_4, hfz19_0, hfz19_1, hfz19_2, hfz19_3, hfz19_4⟩ := bc5 BK378) | ((with_reducible refine gate_builtin (b := .append) (xs := #[.tmp 5, .tmp 9]) rfl ?_); at_builtin; refine Kd.R_append (Kd.int .u8) (w0 := w0) w0.heap.size rfl (.tmp 5) (.tmp 9) 33 5 (.int .u8 0) 1 rfl Tryd.underlying33 info5 rfl (by decide) (by omega) u9000_ l0 ((a1_0) % 256) [.int .u8 ((a1_0) % 256)] (fun k_ => (P0_ k_ ∨ w.heap.size ≤ k_)) (fun _ => False) rfl rfl ?aP (fun _ hk => hk.elim) ?aF ?aO ?aB ?aS ?aL ?_; (case aP => exact rfl); (case aB => exact (bw HB)); (case aF => exact (fun k_ hk => (.inr (Nat.le_trans (by first | exact HK.out.1 | exact (show Kept w _ (fun k_ => P0_ k_) from by repeat (first | (with_reducible first | exact HK.out | apply Kept.alloc | apply Kept.drewN | apply Kept.drew | refine Kept.setCell ?_ (.inr GW378.out) _) | exact HK.out)).1) hk)))); (case aO => exact (ro HO0)); (case aS => exact (below_size (bw HB))); (case aL => have := LMc3.out; omega); intro v380 w20 ho hb hg hat; rw [← Ny379.out] at ho; have n0_ := Aside0.mk (blk_grown (g := gb378) (o := .cells #[.int .i64 a1_0, .int .u64 a1_1, .int .u64 a1_2, .int .u64 a1_3, .int .u64 a1_4] 28 (0, 0)) (bk BK378) hg (Kd.R_ne HO0.out BK378.out (by decide))); have n1_ := Aside0.mk (hb); have n2_ := Aside0.mk (Kept.of_grown (S := (fun k_ => P0_ k_)) hg (by repeat (first | (with_reducible first | exact HK.out | apply Kept.alloc | apply Kept.drewN | apply Kept.drew | refine Kept.setCell ?_ (.inr GW378.out) _) | exact HK.out)) (fun k_ e_ => (HO0.out.1 k_ e_))); have n3_ := Aside0.mk (ho); clear BK378; clear HB; clear HK; clear HO0; have BK378 := n0_; have HB := n1_; have HK := n2_; have HO381 := n3_; clear n0_ n1_ n2_ n3_; clear ho hb hg hat; obtain ⟨hcz21_0, hcz21_1, hcz21_2, hcz21_3, hcz21_4, hfz21_0, hfz21_1, hfz21_2, hfz21_3, hfz21_4⟩ := bc5 BK378; obtain ⟨Ao22, co22, eo22⟩ := Kd.R_slice HO381.out; subst eo22) | ((with_reducible refine gate_callee (f := 53) rfl ?_); refine gl (some 25) Tryd.func53 #[.slice Ao22 y379.length co22, .int .u64 a1_3, .int .i64 8] ?_; (with_reducible refine (turnstileref11_Put.calls k (fun k_ => some k_ = (.slice Ao22 y379.length co22 : Value).ownBlock) (.slice Ao22 y379.length co22) y379 a1_3 8 t388 w0 _ ?side1 ?side2 A16.out).mono ?_); (case side1 => repeat (first | (with_reducible first | exact HB.out | apply below_alloc | apply pw_below_drewN | apply below_drew1 | refine below_set ?_ GE378.out) | exact HB.out)); (case side2 => exact Kd.R_tight rfl HO381.out); rintro e w23 ⟨v389, rfl, ho0, hb, hkp⟩; refine ⟨_, rfl, ?_⟩; have n0_ := Aside0.mk (blk_kept (bk BK378) hkp (fun hs_ => (fun e_ => (Kd.R_ne HO381.out BK378.out (by decide)) e_) hs_)); have n1_ := Aside0.mk (Kd.R_mono (ok' := fun k_ => (P0_ k_ ∨ w.heap.size ≤ k_)) ho0 (fun k_ hk_ => Or.elim hk_ (fun hs_ => (HO381.out.1 k_ (hs_).symm)) (fun hn_ => (.inr (Nat.le_trans (by first | exact HK.out.1 | exact (show Kept w _ (fun k_ => P0_ k_) from by repeat (first | (with_reducible first | exact HK.out | apply Kept.alloc | apply Kept.drewN | apply Kept.drew | refine Kept.setCell ?_ (.inr GW378.out) _) | exact HK.out)).1) hn_))))); have n2_ := Aside0.mk (Kept.then_ (S := (fun k_ => P0_ k_)) (by repeat (first | (with_reducible first | exact HK.out | apply Kept.alloc | apply Kept.drewN | apply Kept.drew | refine Kept.setCell ?_ (.inr GW378.out) _) | exact HK.out)) hkp (fun k_ hs_ => (fun e_ => (HO381.out.1 k_ e_.symm)) hs_)); have n3_ := Aside0.mk (hb); clear BK378; clear HK; clear HB; clear HO381; have BK378 := n0_; have HO390 := n1_; have HK := n2_; have HB := n3_; clear n0_ n1_ n2_ n3_; (try clear hb); (try clear hkp); (try clear ho0); obtain ⟨hcz24_0, hcz24_1, hcz24_2, hcz24_3, hcz24_4, hfz24_0, hfz24_1, hfz24_2, hfz24_3, hfz24_4⟩ := bc5 BK378; obtain ⟨Ao25, co25, eo25⟩ := Kd.R_slice HO390.out; subst eo25) | ((with_reducible refine gate_callee (f := 53) rfl ?_); refine gl (some 29) Tryd.func53 #[.slice Ao25 t388.length co25, .int .u64 a1_4, .int .i64 8] ?_; (with_reducible refine (turnstileref11_Put.calls k (fun k_ => some k_ = (.slice Ao25 t388.length co25 : Value).ownBlock) (.slice Ao25 t388.length co25) t388 a1_4 8 t391 w0 _ ?side1 ?side2 A17.out).mono ?_); (case side1 => repeat (first | (with_reducible first | exact HB.out | apply below_alloc | apply pw_below_drewN | apply below_drew1 | refine below_set ?_ GE378.out) | exact HB.out)); (case side2 => exact Kd.R_tight rfl HO390.out); rintro e w26 ⟨v392, rfl, ho0, hb, hkp⟩; refine ⟨_, rfl, ?_⟩; have n0_ := Aside0.mk (blk_kept (bk BK378) hkp (fun hs_ => (fun e_ => (Kd.R_ne HO390.out BK378.out (by decide)) e_) hs_)); have n1_ := Aside0.mk (Kd.R_mono (ok' := fun k_ => (P0_ k_ ∨ w.heap.size ≤ k_)) ho0 (fun k_ hk_ => Or.elim hk_ (fun hs_ => (HO390.out.1 k_ (hs_).symm)) (fun hn_ => (.inr (Nat.le_trans (by first | exact HK.out.1 | exact (show Kept w _ (fun k_ => P0_ k_) from by repeat (first | (with_reducible first | exact HK.out | apply Kept.alloc | apply Kept.drewN | apply Kept.drew | refine Kept.setCell ?_ (.inr GW378.out) _) | exact HK.out)).1) hn_))))); have n2_ := Aside0.mk (Kept.then_ (S := (fun k_ => P0_ k_)) (by repeat (first | (with_reducible first | exact HK.out | apply Kept.alloc | apply Kept.drewN | apply Kept.drew | refine Kept.setCell ?_ (.inr GW378.out) _) | exact HK.out)) hkp (fun k_ hs_ => (fun e_ => (HO390.out.1 k_ e_.symm)) hs_)); have n3_ := Aside0.mk (hb); clear BK378; clear HK; clear HB; clear HO390; have BK378 := n0_; have HO393 := n1_; have HK := n2_; have HB := n3_; clear n0_ n1_ n2_ n3_; (try clear hb); (try clear hkp); (try clear ho0)))
     go_ret
     exact ⟨_, re, by (with_reducible repeat (first | apply Kd.R_alloc | apply Kd.R_drewN | apply Kd.R_drew)); exact HO393.out, by repeat (first | (with_reducible first | exact HB.out | apply below_alloc | apply pw_below_drewN | apply below_drew1 | refine below_set ?_ GE378.out) | exact HB.out), by repeat (first | (with_reducible first | exact HK.out | apply Kept.alloc | apply Kept.drewN | apply Kept.drew | refine Kept.setCell ?_ (.inr GW378.out) _) | exact HK.out)⟩
 · rw [if_neg c3] at H
   exact absurd H (by simp)

/-! ### turnstileref06_Valid: function 52 -/
def turnstileref06_Valid.f (a0_0 : Int) (a0_1 : Int) (a0_2 : Int) (a0_3 : Int) (a0_4 : Int) : Option (Bool) := if a0_0 = 1 then (if a0_1 > 0 then (if a0_3 = 0 then (some (a0_4 == 0)) else (some false)) else (some false)) else (if a0_0 = 2 then (if a0_4 > 0 then (if a0_1 = 0 then (some (a0_2 == 0)) else (some false)) else (some false)) else (some false))
set_option maxHeartbeats 8000000 in
set_option maxRecDepth 100000 in
theorem turnstileref06_Valid.calls (a0_0 : Int) (a0_1 : Int) (a0_2 : Int) (a0_3 : Int) (a0_4 : Int) (r : Bool) (w : World) (h : turnstileref06_Valid.f a0_0 a0_1 a0_2 a0_3 a0_4 = some r) :
 Calls Tryd.prog 52 #[.agg #[.int .i64 a0_0, .int .u64 a0_1, .int .u64 a0_2, .int .u64 a0_3, .int .u64 a0_4]] w fun e w' => e = .returned (.bool r) ∧ Below w.heap.size w w' := by
 have hu28 := Tryd.underlying28; have HB := Aside0.mk (Below.refl w.heap.size w)
 have H : (if a0_0 = 1 then (if a0_1 > 0 then (if a0_3 = 0 then (some (a0_4 == 0)) else (some false)) else (some false)) else (if a0_0 = 2 then (if a0_4 > 0 then (if a0_1 = 0 then (some (a0_2 == 0)) else (some false)) else (some false)) else (some false))) = some r := h
 clear h
 by_cases c2 : a0_0 = 1
 · rw [if_pos c2] at H
   have c2b0 : (a0_0 == 1) = true := beq_iff_eq.mpr c2
   have c2b1 : (a0_0 != 1) = false := bne_eq_false_iff_eq.mpr c2
   clear c2
   by_cases c3 : a0_1 > 0
   · rw [if_pos c3] at H
     have c3b0 : decide (0 < a0_1) = true := decide_eq_true c3
     clear c3
     by_cases c4 : a0_3 = 0
     · rw [if_pos c4] at H
       have c4b0 : (a0_3 == 0) = true := beq_iff_eq.mpr c4
       have c4b1 : (a0_3 != 0) = false := bne_eq_false_iff_eq.mpr c4
       clear c4
       obtain rfl := Option.some.inj H
       go_enter Tryd.func52, Tryd.ntmps52
       go_wp2_with (first | ((with_reducible refine gate_dst (N := 1) rfl ?_); refine bx 1 #[.int .i64 a0_0, .int .u64 a0_1, .int .u64 a0_2, .int .u64 a0_3, .int .u64 a0_4] 28 ?_; intro gb394 hg w5 hbox hb; have BK394 := Aside0.mk (hbox); have GW394 := sz HB hg; have GE394 := sz HB hg; replace HB := bs HB hb; clear hb hbox hg; obtain ⟨hcz6_0, hcz6_1, hcz6_2, hcz6_3, hcz6_4, hfz6_0, hfz6_1, hfz6_2, hfz6_3, hfz6_4⟩ := bc5 BK394))
       go_ret
       exact ⟨re, bw HB⟩
     · rw [if_neg c4] at H
       have c4b0 : (a0_3 == 0) = false := beq_eq_false_iff_ne.mpr c4
       have c4b1 : (a0_3 != 0) = true := bne_iff_ne.mpr c4
       obtain rfl := Option.some.inj H
       go_enter Tryd.func52, Tryd.ntmps52
       go_wp2_with (first | ((with_reducible refine gate_dst (N := 1) rfl ?_); refine bx 1 #[.int .i64 a0_0, .int .u64 a0_1, .int .u64 a0_2, .int .u64 a0_3, .int .u64 a0_4] 28 ?_; intro gb394 hg w7 hbox hb; have BK394 := Aside0.mk (hbox); have GW394 := sz HB hg; have GE394 := sz HB hg; replace HB := bs HB hb; clear hb hbox hg; obtain ⟨hcz8_0, hcz8_1, hcz8_2, hcz8_3, hcz8_4, hfz8_0, hfz8_1, hfz8_2, hfz8_3, hfz8_4⟩ := bc5 BK394))
       go_ret
       exact ⟨re, bw HB⟩
   · rw [if_neg c3] at H
     have c3b0 : decide (0 < a0_1) = false := decide_eq_false c3
     clear c3
     obtain rfl := Option.some.inj H
     go_enter Tryd.func52, Tryd.ntmps52
     go_wp2_with (first | ((with_reducible refine gate_dst (N := 1) rfl ?_); refine bx 1 #[.int .i64 a0_0, .int .u64 a0_1, .int .u64 a0_2, .int .u64 a0_3, .int .u64 a0_4] 28 ?_; intro gb394 hg w9 hbox hb; have BK394 := Aside0.mk (hbox); have GW394 := sz HB hg; have GE394 := sz HB hg; replace HB := bs HB hb; clear hb hbox hg; obtain ⟨hcz10_0, hcz10_1, hcz10_2, hcz10_3, hcz10_4, hfz10_0, hfz10_1, hfz10_2, hfz10_3, hfz10_4⟩ := bc5 BK394))
     go_ret
     exact ⟨re, bw HB⟩
 · rw [if_neg c2] at H
   have c2b0 : (a0_0 == 1) = false := beq_eq_false_iff_ne.mpr c2
   have c2b1 : (a0_0 != 1) = true := bne_iff_ne.mpr c2
   by_cases c11 : a0_0 = 2
   · rw [if_pos c11] at H
     have c11b0 : (a0_0 == 2) = true := beq_iff_eq.mpr c11
     have c11b1 : (a0_0 != 2) = false := bne_eq_false_iff_eq.mpr c11
     clear c11
     by_cases c12 : a0_4 > 0
     · rw [if_pos c12] at H
       have c12b0 : decide (0 < a0_4) = true := decide_eq_true c12
       clear c12
       by_cases c13 : a0_1 = 0
       · rw [if_pos c13] at H
         have c13b0 : (a0_1 == 0) = true := beq_iff_eq.mpr c13
         have c13b1 : (a0_1 != 0) = false := bne_eq_false_iff_eq.mpr c13
         clear c13
         obtain rfl := Option.some.inj H
         go_enter Tryd.func52, Tryd.ntmps52
         go_wp2_with (first | ((with_reducible refine gate_dst (N := 1) rfl ?_); refine bx 1 #[.int .i64 a0_0, .int .u64 a0_1, .int .u64 a0_2, .int .u64 a0_3, .int .u64 a0_4] 28 ?_; intro gb394 hg w14 hbox hb; have BK394 := Aside0.mk (hbox); have GW394 := sz HB hg; have GE394 := sz HB hg; replace HB := bs HB hb; clear hb hbox hg; obtain ⟨hcz15_0, hcz15_1, hcz15_2, hcz15_3, hcz15_4, hfz15_0, hfz15_1, hfz15_2, hfz15_3, hfz15_4⟩ := bc5 BK394))
         go_ret
         exact ⟨re, bw HB⟩
       · rw [if_neg c13] at H
         have c13b0 : (a0_1 == 0) = false := beq_eq_false_iff_ne.mpr c13
         have c13b1 : (a0_1 != 0) = true := bne_iff_ne.mpr c13
         obtain rfl := Option.some.inj H
         go_enter Tryd.func52, Tryd.ntmps52
         go_wp2_with (first | ((with_reducible refine gate_dst (N := 1) rfl ?_); refine bx 1 #[.int .i64 a0_0, .int .u64 a0_1, .int .u64 a0_2, .int .u64 a0_3, .int .u64 a0_4] 28 ?_; intro gb394 hg w16 hbox hb; have BK394 := Aside0.mk (hbox); have GW394 := sz HB hg; have GE394 := sz HB hg; replace HB := bs HB hb; clear hb hbox hg; obtain ⟨hcz17_0, hcz17_1, hcz17_2, hcz17_3, hcz17_4, hfz17_0, hfz17_1, hfz17_2, hfz17_3, hfz17_4⟩ := bc5 BK394))
         go_ret
         exact ⟨re, bw HB⟩
     · rw [if_neg c12] at H
       have c12b0 : decide (0 < a0_4) = false := decide_eq_false c12
       clear c12
       obtain rfl := Option.some.inj H
       go_enter Tryd.func52, Tryd.ntmps52
       go_wp2_with (first | ((with_reducible refine gate_dst (N := 1) rfl ?_); refine bx 1 #[.int .i64 a0_0, .int .u64 a0_1, .int .u64 a0_2, .int .u64 a0_3, .int .u64 a0_4] 28 ?_; intro gb394 hg w18 hbox hb; have BK394 := Aside0.mk (hbox); have GW394 := sz HB hg; have GE394 := sz HB hg; replace HB := bs HB hb; clear hb hbox hg; obtain ⟨hcz19_0, hcz19_1, hcz19_2, hcz19_3, hcz19_4, hfz19_0, hfz19_1, hfz19_2, hfz19_3, hfz19_4⟩ := bc5 BK394))
       go_ret
       exact ⟨re, bw HB⟩
   · rw [if_neg c11] at H
     have c11b0 : (a0_0 == 2) = false := beq_eq_false_iff_ne.mpr c11
     have c11b1 : (a0_0 != 2) = true := bne_iff_ne.mpr c11
     obtain rfl := Option.some.inj H
     go_enter Tryd.func52, Tryd.ntmps52
     go_wp2_with (first | ((with_reducible refine gate_dst (N := 1) rfl ?_); refine bx 1 #[.int .i64 a0_0, .int .u64 a0_1, .int .u64 a0_2, .int .u64 a0_3, .int .u64 a0_4] 28 ?_; intro gb394 hg w20 hbox hb; have BK394 := Aside0.mk (hbox); have GW394 := sz HB hg; have GE394 := sz HB hg; replace HB := bs HB hb; clear hb hbox hg; obtain ⟨hcz21_0, hcz21_1, hcz21_2, hcz21_3, hcz21_4, hfz21_0, hfz21_1, hfz21_2, hfz21_3, hfz21_4⟩ := bc5 BK394))
     go_ret
     exact ⟨re, bw HB⟩

/-! ### turnstileref06_Form: function 94 -/
def turnstileref06_Form.f (a0_0 : Int) (a0_1 : Int) (a0_2 : Int) (a0_3 : Int) (a0_4 : Int) (a1_0 : Int) (a1_1 : Int) (a1_2 : Int) : Option (Int × Int × Int) := (turnstileref06_Valid.f a0_0 a0_1 a0_2 a0_3 a0_4).bind fun t398 => (if t398 = true then (if a0_0 = 1 then (some (a1_0, 0, 0)) else (some (0, a1_1, a1_2))) else (some (0, 0, 0)))
set_option maxHeartbeats 8000000 in
set_option maxRecDepth 100000 in
theorem turnstileref06_Form.calls (a0_0 : Int) (a0_1 : Int) (a0_2 : Int) (a0_3 : Int) (a0_4 : Int) (a1_0 : Int) (a1_1 : Int) (a1_2 : Int) (r1 : Int) (r2 : Int) (r3 : Int) (w : World) (h : turnstileref06_Form.f a0_0 a0_1 a0_2 a0_3 a0_4 a1_0 a1_1 a1_2 = some (r1, r2, r3)) :
 Calls Tryd.prog 94 #[.agg #[.int .i64 a0_0, .int .u64 a0_1, .int .u64 a0_2, .int .u64 a0_3, .int .u64 a0_4], .agg #[.int .u64 a1_0, .int .u64 a1_1, .int .u64 a1_2]] w fun e w' => e = .returned (.agg #[.int .u64 r1, .int .u64 r2, .int .u64 r3]) ∧ Below w.heap.size w w' := by
 have hu28 := Tryd.underlying28; have hu30 := Tryd.underlying30; have HB := Aside0.mk (Below.refl w.heap.size w)
 have H : ((turnstileref06_Valid.f a0_0 a0_1 a0_2 a0_3 a0_4).bind fun t398 => (if t398 = true then (if a0_0 = 1 then (some (a1_0, 0, 0)) else (some (0, a1_1, a1_2))) else (some (0, 0, 0)))) = some (r1, r2, r3) := h
 clear h; replace H := Option.bind_eq_some_iff.mp H
 obtain ⟨t398, A30, H⟩ := H
 replace H : (if t398 = true then (if a0_0 = 1 then (some (a1_0, 0, 0)) else (some (0, a1_1, a1_2))) else (some (0, 0, 0))) = some (r1, r2, r3) := H
 have A3 := Aside0.mk A30; clear A30
 by_cases c4 : t398 = true
 · subst c4
   have H1 : (if a0_0 = 1 then (some (a1_0, 0, 0)) else (some (0, a1_1, a1_2))) = some (r1, r2, r3) := by rw [if_pos rfl] at H; exact H
   clear H; have H := H1; clear H1
   by_cases c5 : a0_0 = 1
   · rw [if_pos c5] at H
     have c5b0 : (a0_0 == 1) = true := beq_iff_eq.mpr c5
     have c5b1 : (a0_0 != 1) = false := bne_eq_false_iff_eq.mpr c5
     clear c5
     simp only [Option.some.injEq, Prod.mk.injEq] at H
     obtain ⟨rfl, rfl, rfl⟩ := H
     go_enter Tryd.func94, Tryd.ntmps94
     go_wp2_with (first | ((with_reducible refine gate_dst (N := 2) rfl ?_); refine bx 2 #[.int .i64 a0_0, .int .u64 a0_1, .int .u64 a0_2, .int .u64 a0_3, .int .u64 a0_4] 28 ?_; intro gb395 hg w6 hbox hb; have BK395 := Aside0.mk (hbox); have GW395 := sz HB hg; have GE395 := sz HB hg; replace HB := bs HB hb; clear hb hbox hg) | ((with_reducible refine gate_dst (N := 3) rfl ?_); refine bx 3 #[.int .u64 a1_0, .int .u64 a1_1, .int .u64 a1_2] 30 ?_; intro gb396 hg w7 hbox hb; have BK396 := Aside0.mk (hbox); have GW396 := sz HB hg; have GE396 := sz HB hg; have NB395_396 := nl BK395 hg; have NB396_395 := nr BK395 hg; replace BK395 := bb BK395 hb; replace HB := bs HB hb; clear hb hbox hg) | ((with_reducible refine gate_dst (N := 4) rfl ?_); refine bx 4 #[.int .u64 0, .int .u64 0, .int .u64 0] 30 ?_; intro gb397 hg w8 hbox hb; have BK397 := Aside0.mk (hbox); have GW397 := sz HB hg; have GE397 := sz HB hg; have NB395_397 := nl BK395 hg; have NB397_395 := nr BK395 hg; have NB396_397 := nl BK396 hg; have NB397_396 := nr BK396 hg; replace BK395 := bb BK395 hb; replace BK396 := bb BK396 hb; replace HB := bs HB hb; clear hb hbox hg; have hnb9 := NB395_396.out; have hnc9 := NB396_395.out; have hnb10 := NB395_397.out; have hnc10 := NB397_395.out; obtain ⟨hcz11_0, hcz11_1, hcz11_2, hcz11_3, hcz11_4, hfz11_0, hfz11_1, hfz11_2, hfz11_3, hfz11_4⟩ := bc5 BK395) | ((with_reducible refine gate_callee (f := 52) rfl ?_); refine gm (some 6) Tryd.func52 #[.agg #[.int .i64 a0_0, .int .u64 a0_1, .int .u64 a0_2, .int .u64 a0_3, .int .u64 a0_4]] (turnstileref06_Valid.calls a0_0 a0_1 a0_2 a0_3 a0_4 true _ A3.out) ?_; intro w12 hb; replace BK395 := bb BK395 hb; replace BK396 := bb BK396 hb; replace BK397 := bb BK397 hb; replace HB := bs HB hb; (try clear hb); (try clear hb2); (try clear hk); (try clear hi); obtain ⟨hcz13_0, hcz13_1, hcz13_2, hcz13_3, hcz13_4, hfz13_0, hfz13_1, hfz13_2, hfz13_3, hfz13_4⟩ := bc5 BK395; have hnb14 := NB396_397.out; have hnc14 := NB397_396.out; obtain ⟨hcz15_0, hcz15_1, hcz15_2, hfz15_0, hfz15_1, hfz15_2⟩ := bc3 BK396; obtain ⟨hcz16_0, hcz16_1, hcz16_2, hfz16_0, hfz16_1, hfz16_2⟩ := bc3 BK397))
     refine bodyPost_ret (results_cell_row rfl _ _ gb397 30 #[.int .u64 a1_0, .int .u64 0, .int .u64 0] (0, 0) _ rfl (bk BK397) Tryd.underlying30 rfl (by kernel_rfl)) rfl ?_
     exact ⟨re, bw HB⟩
   · rw [if_neg c5] at H
     have c5b0 : (a0_0 == 1) = false := beq_eq_false_iff_ne.mpr c5
     have c5b1 : (a0_0 != 1) = true := bne_iff_ne.mpr c5
     simp only [Option.some.injEq, Prod.mk.injEq] at H
     obtain ⟨rfl, rfl, rfl⟩ := H
     go_enter Tryd.func94, Tryd.ntmps94
     go_wp2_with (first | ((with_reducible refine gate_dst (N := 2) rfl ?_); refine bx 2 #[.int .i64 a0_0, .int .u64 a0_1, .int .u64 a0_2, .int .u64 a0_3, .int .u64 a0_4] 28 ?_; intro gb395 hg w17 hbox hb; have BK395 := Aside0.mk (hbox); have GW395 := sz HB hg; have GE395 := sz HB hg; replace HB := bs HB hb; clear hb hbox hg) | ((with_reducible refine gate_dst (N := 3) rfl ?_); refine bx 3 #[.int .u64 a1_0, .int .u64 a1_1, .int .u64 a1_2] 30 ?_; intro gb396 hg w18 hbox hb; have BK396 := Aside0.mk (hbox); have GW396 := sz HB hg; have GE396 := sz HB hg; have NB395_396 := nl BK395 hg; have NB396_395 := nr BK395 hg; replace BK395 := bb BK395 hb; replace HB := bs HB hb; clear hb hbox hg) | ((with_reducible refine gate_dst (N := 4) rfl ?_); refine bx 4 #[.int .u64 0, .int .u64 0, .int .u64 0] 30 ?_; intro gb397 hg w19 hbox hb; have BK397 := Aside0.mk (hbox); have GW397 := sz HB hg; have GE397 := sz HB hg; have NB395_397 := nl BK395 hg; have NB397_395 := nr BK395 hg; have NB396_397 := nl BK396 hg; have NB397_396 := nr BK396 hg; replace BK395 := bb BK395 hb; replace BK396 := bb BK396 hb; replace HB := bs HB hb; clear hb hbox hg; have hnb20 := NB395_396.out; have hnc20 := NB396_395.out; have hnb21 := NB395_397.out; have hnc21 := NB397_395.out; obtain ⟨hcz22_0, hcz22_1, hcz22_2, hcz22_3, hcz22_4, hfz22_0, hfz22_1, hfz22_2, hfz22_3, hfz22_4⟩ := bc5 BK395) | ((with_reducible refine gate_callee (f := 52) rfl ?_); refine gm (some 6) Tryd.func52 #[.agg #[.int .i64 a0_0, .int .u64 a0_1, .int .u64 a0_2, .int .u64 a0_3, .int .u64 a0_4]] (turnstileref06_Valid.calls a0_0 a0_1 a0_2 a0_3 a0_4 true _ A3.out) ?_; intro w23 hb; replace BK395 := bb BK395 hb; replace BK396 := bb BK396 hb; replace BK397 := bb BK397 hb; replace HB := bs HB hb; (try clear hb); (try clear hb2); (try clear hk); (try clear hi); obtain ⟨hcz24_0, hcz24_1, hcz24_2, hcz24_3, hcz24_4, hfz24_0, hfz24_1, hfz24_2, hfz24_3, hfz24_4⟩ := bc5 BK395; have hnb25 := NB396_397.out; have hnc25 := NB397_396.out; obtain ⟨hcz26_0, hcz26_1, hcz26_2, hfz26_0, hfz26_1, hfz26_2⟩ := bc3 BK396; obtain ⟨hcz27_0, hcz27_1, hcz27_2, hfz27_0, hfz27_1, hfz27_2⟩ := bc3 BK397))
     refine bodyPost_ret (results_cell_row rfl _ _ gb397 30 #[.int .u64 0, .int .u64 a1_1, .int .u64 a1_2] (0, 0) _ rfl (bk BK397) Tryd.underlying30 rfl (by kernel_rfl)) rfl ?_
     exact ⟨re, bw HB⟩
 · replace c4 := Bool.eq_false_iff.mpr c4
   subst c4
   have H1 : (some (0, 0, 0)) = some (r1, r2, r3) := by rw [if_neg (show ¬ (false = true) by decide)] at H; exact H
   clear H; have H := H1; clear H1
   simp only [Option.some.injEq, Prod.mk.injEq] at H
   obtain ⟨rfl, rfl, rfl⟩ := H
   go_enter Tryd.func94, Tryd.ntmps94
   go_wp2_with (first | ((with_reducible refine gate_dst (N := 2) rfl ?_); refine bx 2 #[.int .i64 a0_0, .int .u64 a0_1, .int .u64 a0_2, .int .u64 a0_3, .int .u64 a0_4] 28 ?_; intro gb395 hg w28 hbox hb; have BK395 := Aside0.mk (hbox); have GW395 := sz HB hg; have GE395 := sz HB hg; replace HB := bs HB hb; clear hb hbox hg) | ((with_reducible refine gate_dst (N := 3) rfl ?_); refine bx 3 #[.int .u64 a1_0, .int .u64 a1_1, .int .u64 a1_2] 30 ?_; intro gb396 hg w29 hbox hb; have BK396 := Aside0.mk (hbox); have GW396 := sz HB hg; have GE396 := sz HB hg; have NB395_396 := nl BK395 hg; have NB396_395 := nr BK395 hg; replace BK395 := bb BK395 hb; replace HB := bs HB hb; clear hb hbox hg) | ((with_reducible refine gate_dst (N := 4) rfl ?_); refine bx 4 #[.int .u64 0, .int .u64 0, .int .u64 0] 30 ?_; intro gb397 hg w30 hbox hb; have BK397 := Aside0.mk (hbox); have GW397 := sz HB hg; have GE397 := sz HB hg; have NB395_397 := nl BK395 hg; have NB397_395 := nr BK395 hg; have NB396_397 := nl BK396 hg; have NB397_396 := nr BK396 hg; replace BK395 := bb BK395 hb; replace BK396 := bb BK396 hb; replace HB := bs HB hb; clear hb hbox hg; have hnb31 := NB395_396.out; have hnc31 := NB396_395.out; have hnb32 := NB395_397.out; have hnc32 := NB397_395.out; obtain ⟨hcz33_0, hcz33_1, hcz33_2, hcz33_3, hcz33_4, hfz33_0, hfz33_1, hfz33_2, hfz33_3, hfz33_4⟩ := bc5 BK395) | ((with_reducible refine gate_callee (f := 52) rfl ?_); refine gm (some 6) Tryd.func52 #[.agg #[.int .i64 a0_0, .int .u64 a0_1, .int .u64 a0_2, .int .u64 a0_3, .int .u64 a0_4]] (turnstileref06_Valid.calls a0_0 a0_1 a0_2 a0_3 a0_4 false _ A3.out) ?_; intro w34 hb; replace BK395 := bb BK395 hb; replace BK396 := bb BK396 hb; replace BK397 := bb BK397 hb; replace HB := bs HB hb; (try clear hb); (try clear hb2); (try clear hk); (try clear hi); have hnb35 := NB397_396.out; have hnc35 := NB396_397.out; obtain ⟨hcz36_0, hcz36_1, hcz36_2, hfz36_0, hfz36_1, hfz36_2⟩ := bc3 BK397))
   refine bodyPost_ret (results_cell_row rfl _ _ gb397 30 #[.int .u64 0, .int .u64 0, .int .u64 0] (0, 0) _ rfl (bk BK397) Tryd.underlying30 rfl (by kernel_rfl)) rfl ?_
   exact ⟨re, bw HB⟩

end Go.Proofs.YtkgjepmminmjjaaDoor.E
