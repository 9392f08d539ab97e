/- Written by the session's own program hyb.py: what functions of the program compute; Lean checks it. -/
import Derived.Test.YtkgjepmminmjjaaDoorEx0
import Derived.Test.YtkgjepmminmjjaaDoorEx17
import Derived.Test.YtkgjepmminmjjaaDoorEx24
import Derived.Test.YtkgjepmminmjjaaDoorEx25
import Derived.Test.YtkgjepmminmjjaaDoorWErr
namespace Go.Proofs.YtkgjepmminmjjaaDoor.E
open Go.RowKit Go.Proofs.YtkgjepmminmjjaaDoorW.PrintWords Go.Proofs.YtkgjepmminmjjaaDoorW.PrintLast Go.Proofs.YtkgjepmminmjjaaDoorW.PrintMore Go.Proofs.YtkgjepmminmjjaaDoorW.PrintShort
attribute [local go_sem] run_Add64 run_Sub64
attribute [local go_sem] max2_int min2_int max_two min_two max_three min_three max_four min_four   -- for this text's walks alone
set_option linter.unusedVariables false
set_option linter.unusedSimpArgs false

/-! ### turnstilelaw14_awake: function 20 -/
def turnstilelaw14_awake.j0 : Nat → List Int → Bool → Int → Int → List (S79) → Option (Bool)
  | 0, _, _, _, _, _ => none
  | k + 1, x2, x45, x336000, x336001, x336002 => if x45 = true then (some false) else ((image_Decode.f x2).bind fun bt344 => (if 0 ≤ bt344.2.2.2 then (if bt344.2.2.2 = 0 then ((turnstilelaw14_alike.f k bt344.1 bt344.2.1 bt344.2.2.1 x336000 x336001 x336002).bind fun t351 => (some t351)) else (some false)) else (none)))
def turnstilelaw14_awake.f (k : Nat)  : Option (Bool) := (some (([(⟨(⟨#[107]⟩ : ByteArray), (⟨1, 10, 30, 0, 0⟩ : S28), (⟨140, 0, 0⟩ : S30)⟩ : S79)] : List (S79)) : List (S79))).bind fun y332 => ((image_Encode.f k 7 100 y332).bind fun bt336 => (if 0 ≤ bt336.2 then (if bt336.2 = 0 then (if (bt336.1.length : Int) = 56 then (if 0 < (bt336.1.length : Int) then (if (rd bt336.1 0) = 84 then (if 4 < (bt336.1.length : Int) then (if (rd bt336.1 4) = 7 then (if 52 < (bt336.1.length : Int) then (if (rd bt336.1 52) = 16 then (if 55 < (bt336.1.length : Int) then (turnstilelaw14_awake.j0 k bt336.1 ((rd bt336.1 55) != 156) 7 100 y332) else (none)) else (turnstilelaw14_awake.j0 k bt336.1 true 7 100 y332)) else (none)) else (turnstilelaw14_awake.j0 k bt336.1 true 7 100 y332)) else (none)) else (turnstilelaw14_awake.j0 k bt336.1 true 7 100 y332)) else (none)) else (turnstilelaw14_awake.j0 k bt336.1 true 7 100 y332)) else (turnstilelaw14_awake.j0 k bt336.1 true 7 100 y332)) else (none)))
set_option maxHeartbeats 8000000 in
set_option maxRecDepth 100000 in
theorem turnstilelaw14_awake.calls (k : Nat) [Errs]  (r : Bool) (w : World) (hE : Sent w) (h : turnstilelaw14_awake.f k  = some r) :
 Calls Tryd.prog 20 #[] w fun e w' => e = .returned (.bool r) ∧ Below w.heap.size w w' := by
 have hu28 := Tryd.underlying28; have hu30 := Tryd.underlying30; have hu79 := Tryd.underlying79; have hu51 := Tryd.underlying51; have hu37 := Tryd.underlying37; have HERR := Aside0.mk hE; clear hE; have HB := Aside0.mk (Below.refl w.heap.size w)
 have H : ((some (([(⟨(⟨#[107]⟩ : ByteArray), (⟨1, 10, 30, 0, 0⟩ : S28), (⟨140, 0, 0⟩ : S30)⟩ : S79)] : List (S79)) : List (S79))).bind fun y332 => ((image_Encode.f k 7 100 y332).bind fun bt336 => (if 0 ≤ bt336.2 then (if bt336.2 = 0 then (if (bt336.1.length : Int) = 56 then (if 0 < (bt336.1.length : Int) then (if (rd bt336.1 0) = 84 then (if 4 < (bt336.1.length : Int) then (if (rd bt336.1 4) = 7 then (if 52 < (bt336.1.length : Int) then (if (rd bt336.1 52) = 16 then (if 55 < (bt336.1.length : Int) then (turnstilelaw14_awake.j0 k bt336.1 ((rd bt336.1 55) != 156) 7 100 y332) else (none)) else (turnstilelaw14_awake.j0 k bt336.1 true 7 100 y332)) else (none)) else (turnstilelaw14_awake.j0 k bt336.1 true 7 100 y332)) else (none)) else (turnstilelaw14_awake.j0 k bt336.1 true 7 100 y332)) else (none)) else (turnstilelaw14_awake.j0 k bt336.1 true 7 100 y332)) else (turnstilelaw14_awake.j0 k bt336.1 true 7 100 y332)) else (none)))) = some r := h
 clear h
 obtain ⟨y332, hy332⟩ : ∃ y_ : List (S79), y_ = (([(⟨(⟨#[107]⟩ : ByteArray), (⟨1, 10, 30, 0, 0⟩ : S28), (⟨140, 0, 0⟩ : S30)⟩ : S79)] : List (S79))) := ⟨_, rfl⟩
 replace H : ((image_Encode.f k 7 100 y332).bind fun bt336 => (if 0 ≤ bt336.2 then (if bt336.2 = 0 then (if (bt336.1.length : Int) = 56 then (if 0 < (bt336.1.length : Int) then (if (rd bt336.1 0) = 84 then (if 4 < (bt336.1.length : Int) then (if (rd bt336.1 4) = 7 then (if 52 < (bt336.1.length : Int) then (if (rd bt336.1 52) = 16 then (if 55 < (bt336.1.length : Int) then (turnstilelaw14_awake.j0 k bt336.1 ((rd bt336.1 55) != 156) 7 100 y332) else (none)) else (turnstilelaw14_awake.j0 k bt336.1 true 7 100 y332)) else (none)) else (turnstilelaw14_awake.j0 k bt336.1 true 7 100 y332)) else (none)) else (turnstilelaw14_awake.j0 k bt336.1 true 7 100 y332)) else (none)) else (turnstilelaw14_awake.j0 k bt336.1 true 7 100 y332)) else (turnstilelaw14_awake.j0 k bt336.1 true 7 100 y332)) else (none))) = some r := by first | (rw [hy332]; with_reducible exact H) | (have H2_ := (Option.bind_some _ _).symm.trans H; rw [hy332]; with_reducible exact H2_) | (have H2_ := (Option.bind_some _ _).symm.trans H; with_reducible exact H2_) | with_reducible exact H | (rw [hy332]; exact H) | exact H
 have Ny332 := Aside0.mk hy332; clear hy332; replace H := Option.bind_eq_some_iff.mp H
 obtain ⟨⟨t336, t339⟩, A10, H⟩ := H
 replace H : (if 0 ≤ t339 then (if t339 = 0 then (if (t336.length : Int) = 56 then (if 0 < (t336.length : Int) then (if (rd t336 0) = 84 then (if 4 < (t336.length : Int) then (if (rd t336 4) = 7 then (if 52 < (t336.length : Int) then (if (rd t336 52) = 16 then (if 55 < (t336.length : Int) then (turnstilelaw14_awake.j0 k t336 ((rd t336 55) != 156) 7 100 y332) else (none)) else (turnstilelaw14_awake.j0 k t336 true 7 100 y332)) else (none)) else (turnstilelaw14_awake.j0 k t336 true 7 100 y332)) else (none)) else (turnstilelaw14_awake.j0 k t336 true 7 100 y332)) else (none)) else (turnstilelaw14_awake.j0 k t336 true 7 100 y332)) else (turnstilelaw14_awake.j0 k t336 true 7 100 y332)) else (none)) = some r := H
 have A1 := Aside0.mk A10; clear A10; have HC2 := Aside0.mk H; clear H
 go_enter Tryd.func20, Tryd.ntmps20
 go_upto_region 3 with (first | ((with_reducible refine gate_dst (N := 8) rfl ?_); (try (refine gate_guard (by rfl) ?_; dsimp only)); refine Kd.R_lit k79 _ 79 ?hg (N := 8) ?hd (xs := ([(⟨(⟨#[107]⟩ : ByteArray), (⟨1, 10, 30, 0, 0⟩ : S28), (⟨140, 0, 0⟩ : S30)⟩ : S79)] : List (S79))) (inner := [.string (⟨#[107]⟩ : ByteArray), .int .i64 1, .int .u64 10, .int .u64 30, .int .u64 0, .int .u64 0, .int .u64 140, .int .u64 0, .int .u64 0]) (ok := fun _ => True) (okp := fun _ => True) ?hr ?hp (fun _ hk => hk) trivial (Below.refl _ _) (Nat.le_refl _) (by simp) ?_; (case hd => rfl); (case hg => rfl); (case hr => first | (go_simp; done) | (go_simp; rfl)); (case hp => exact (Reps.c9 (show Kd.M k79 _ _ _ (⟨(⟨#[107]⟩ : ByteArray), (⟨1, 10, 30, 0, 0⟩ : S28), (⟨140, 0, 0⟩ : S30)⟩ : S79) [.string (⟨#[107]⟩ : ByteArray), .int .i64 1, .int .u64 10, .int .u64 30, .int .u64 0, .int .u64 0, .int .u64 140, .int .u64 0, .int .u64 0] from (k79_mkM _ _ _ (⟨(⟨#[107]⟩ : ByteArray), (⟨1, 10, 30, 0, 0⟩ : S28), (⟨140, 0, 0⟩ : S30)⟩ : S79) )) (Reps.none _ _))); intro v333 w3 ho4 hb hg_ hnew_; clear hg_ hnew_; (first | rw [← Ny332.out] at ho4 | (simp only [Int.reduceToNat] at ho4; rw [← Ny332.out] at ho4)); have HO334 := Aside0.mk (Kd.R_lower ho4 (below_size (bw HB))); replace HB := bs HB hb; clear hb ho4; obtain ⟨Ao5, co5, eo5⟩ := Kd.R_slice HO334.out; subst eo5) | ((with_reducible refine gate_dst (N := 1) rfl ?_); (try (refine gate_guard (by rfl) ?_; dsimp only)); refine bx 1 #[.int .u64 0, .int .u64 0, .slice none 0 0] 51 ?_; intro gb335 hg w6 hbox hb; have BK335 := Aside0.mk (hbox); have GW335 := sz HB hg; have GE335 := sz HB hg; replace HO334 := Aside0.mk (Kd.R_below (ro HO334) hb); replace HB := bs HB hb; clear hb hbox hg; obtain ⟨hcz7_0, hcz7_1, hcz7_2, hfz7_0, hfz7_1, hfz7_2⟩ := bc3 BK335) | ((with_reducible refine gate_callee (f := 24) rfl ?_); refine gl (some 12) Tryd.func24 #[.agg #[.int .u64 7, .int .u64 100, .slice Ao5 y332.length co5]] ?_; (with_reducible refine (image_Encode.calls k 7 100 _ _ y332 t336 t339 _ ?side3 ?side1 ?side2 A1.out).mono ?_); (case side1 => refine (Kd.R_reads' (e := 79) (base := w.heap.size) (ok := fun k_ => True) (n := y332.length) (c := co5) ?_).2.2; exact (by (with_reducible repeat (first | apply Kd.R_alloc | apply Kd.R_drewN | apply Kd.R_drew)); exact (Kd.R_mono (Kd.R_far (p := ⟨gb335, 2, none⟩) (Kd.R_far (p := ⟨gb335, 1, none⟩) (Kd.R_far (p := ⟨gb335, 0, none⟩) (Kd.R_types HO334.out BK335.out (by decide)) (fun _ hk => hk.2) (.int .u64 7)) (fun _ hk => hk.2) (.int .u64 100)) (fun _ hk => hk.2) (.slice Ao5 y332.length co5)) (fun _ h_ => h_.1)))); (case side2 => exact (Kd.R_reads' HO334.out).2.1); (case side3 => exact (HERR.out.below (bw HB))); rintro e w8 ⟨v337, rfl, ho0, hb⟩; refine ⟨_, rfl, ?_⟩; have n0_ := Aside0.mk (Kd.R_below (by (with_reducible repeat (first | apply Kd.R_alloc | apply Kd.R_drewN | apply Kd.R_drew)); exact (Kd.R_mono (Kd.R_far (p := ⟨gb335, 2, none⟩) (Kd.R_far (p := ⟨gb335, 1, none⟩) (Kd.R_far (p := ⟨gb335, 0, none⟩) (Kd.R_types HO334.out BK335.out (by decide)) (fun _ hk => hk.2) (.int .u64 7)) (fun _ hk => hk.2) (.int .u64 100)) (fun _ hk => hk.2) (.slice Ao5 y332.length co5)) (fun _ h_ => h_.1))) hb); have n1_ := Aside0.mk (Kd.R_lower ho0 (below_size (bw HB))); have n2_ := bbp (.cells #[.int .u64 7, .int .u64 100, .slice Ao5 y332.length co5] 51 (0, 0)) BK335 hb; have n3_ := bs HB hb; clear HO334; clear BK335; clear HB; have HO334 := n0_; have HO338 := n1_; have BK335 := n2_; have HB := n3_; clear n0_ n1_ n2_ n3_; (try clear hb); (try clear hb2); (try clear hk); (try clear hi); (try clear ho0)))
 (try simp only [Act.put, List.setIfInBounds_toArray, List.set_cons_zero, List.set_cons_succ])
 go_cut [45] (fun v45 wc => ∃ (kq : Nat) (x45_1 : Bool), v45 = .bool x45_1 ∧ Aside0 (turnstilelaw14_awake.j0 kq t336 x45_1 7 100 y332 = some r) ∧ Aside0 (kq ≤ k) ∧ Aside0 (Kd.R (Kd.int .u8) 5 wc w.heap.size (fun _ => True) v337 t336) ∧ Aside0 (Kd.R k79 79 wc w.heap.size (fun _ => True) (.slice Ao5 y332.length co5) y332) ∧ Aside0 (wc.heap[gb335]? = some (.cells #[.int .u64 7, .int .u64 100, (.slice Ao5 y332.length co5)] 51 (0, 0))) ∧ Aside0 (Below w.heap.size w wc))
 case first =>
  have H := HC2.out; clear HC2
  by_cases c9 : 0 ≤ t339
  · rw [if_pos c9] at H
    have c9b0 := eq_true c9
    have c9b1 : decide (0 ≤ t339) = true := decide_eq_true c9
    clear c9
    by_cases c10 : t339 = 0
    · rw [if_pos c10] at H
      have c10b0 : (t339 == 0) = true := beq_iff_eq.mpr c10
      have c10b1 : (t339 != 0) = false := bne_eq_false_iff_eq.mpr c10
      clear c10
      (first | rw [c10b0] | (simp only [i64_w, i32_w]; rw [c10b0]) | skip)
      by_cases c11 : (t336.length : Int) = 56
      · rw [if_pos c11] at H
        have c11b0 : ((t336.length : Int) == 56) = true := beq_iff_eq.mpr c11
        have c11b1 : ((t336.length : Int) != 56) = false := bne_eq_false_iff_eq.mpr c11
        clear c11
        by_cases c12 : 0 < (t336.length : Int)
        · rw [if_pos c12] at H
          have c12b0 : decide (0 < (t336.length : Int)) = true := decide_eq_true c12
          have c12b1 : decide (0 < t336.length) = true := decide_eq_true (by omega)
          clear c12
          by_cases c13 : (rd t336 0) = 84
          · rw [if_pos c13] at H
            have c13b0 : ((rd t336 0) == 84) = true := beq_iff_eq.mpr c13
            have c13b1 : ((rd t336 0) != 84) = false := bne_eq_false_iff_eq.mpr c13
            clear c13
            by_cases c14 : 4 < (t336.length : Int)
            · rw [if_pos c14] at H
              have c14b0 : decide (4 < (t336.length : Int)) = true := decide_eq_true c14
              have c14b1 : decide (4 < t336.length) = true := decide_eq_true (by omega)
              clear c14
              by_cases c15 : (rd t336 4) = 7
              · rw [if_pos c15] at H
                have c15b0 : ((rd t336 4) == 7) = true := beq_iff_eq.mpr c15
                have c15b1 : ((rd t336 4) != 7) = false := bne_eq_false_iff_eq.mpr c15
                clear c15
                by_cases c16 : 52 < (t336.length : Int)
                · rw [if_pos c16] at H
                  have c16b0 : decide (52 < (t336.length : Int)) = true := decide_eq_true c16
                  have c16b1 : decide (52 < t336.length) = true := decide_eq_true (by omega)
                  clear c16
                  by_cases c17 : (rd t336 52) = 16
                  · rw [if_pos c17] at H
                    have c17b0 : ((rd t336 52) == 16) = true := beq_iff_eq.mpr c17
                    have c17b1 : ((rd t336 52) != 16) = false := bne_eq_false_iff_eq.mpr c17
                    clear c17
                    by_cases c18 : 55 < (t336.length : Int)
                    · rw [if_pos c18] at H
                      have c18b0 : decide (55 < (t336.length : Int)) = true := decide_eq_true c18
                      have c18b1 : decide (55 < t336.length) = true := decide_eq_true (by omega)
                      clear c18
                      have H' := Aside0.mk H
                      clear H
                      obtain ⟨Ao19, co19, eo19⟩ := Kd.R_slice HO338.out
                      subst eo19
                      have p340 : 0 ≤ (0 : Int) := (by omega)
                      have q340 : 0 < (t336.length : Int) := of_decide_eq_true (by first | (with_reducible assumption) | assumption)
                      obtain ⟨ad340, e340, hx340_0⟩ := Kd.at_int (Kd.R_reads' HO338.out).2.2 0 p340 q340
                      cases e340
                      have qi340 : (0 < t336.length) = True := eq_true (by omega)
                      (try rw [show ((0 : Int)).toNat = 0 from rfl] at hx340_0)
                      (try rw [Addr.add_zero'] at hx340_0)
                      replace p340 := eq_true p340; replace q340 := eq_true q340
                      have p341 : 0 ≤ (4 : Int) := (by omega)
                      have q341 : 4 < (t336.length : Int) := of_decide_eq_true (by first | (with_reducible assumption) | assumption)
                      obtain ⟨ad341, e341, hx341_0⟩ := Kd.at_int (Kd.R_reads' HO338.out).2.2 4 p341 q341
                      obtain rfl : ad340 = ad341 := (by injection e341)
                      (try simp only [show (4 : Int).toNat = 4 from rfl, Nat.reduceMul, Nat.reduceEqDiff, Go.Addr.add, ↓reduceIte] at hx341_0)
                      have qi341 : (4 < t336.length) = True := eq_true (by omega)
                      (try rw [show ((4 : Int)).toNat = 4 from rfl] at hx341_0)
                      replace p341 := eq_true p341; replace q341 := eq_true q341
                      have p342 : 0 ≤ (52 : Int) := (by omega)
                      have q342 : 52 < (t336.length : Int) := of_decide_eq_true (by first | (with_reducible assumption) | assumption)
                      obtain ⟨ad342, e342, hx342_0⟩ := Kd.at_int (Kd.R_reads' HO338.out).2.2 52 p342 q342
                      obtain rfl : ad340 = ad342 := (by injection e342)
                      (try simp only [show (52 : Int).toNat = 52 from rfl, Nat.reduceMul, Nat.reduceEqDiff, Go.Addr.add, ↓reduceIte] at hx342_0)
                      have qi342 : (52 < t336.length) = True := eq_true (by omega)
                      (try rw [show ((52 : Int)).toNat = 52 from rfl] at hx342_0)
                      replace p342 := eq_true p342; replace q342 := eq_true q342
                      have p343 : 0 ≤ (55 : Int) := (by omega)
                      have q343 : 55 < (t336.length : Int) := of_decide_eq_true (by first | (with_reducible assumption) | assumption)
                      obtain ⟨ad343, e343, hx343_0⟩ := Kd.at_int (Kd.R_reads' HO338.out).2.2 55 p343 q343
                      obtain rfl : ad340 = ad343 := (by injection e343)
                      (try simp only [show (55 : Int).toNat = 55 from rfl, Nat.reduceMul, Nat.reduceEqDiff, Go.Addr.add, ↓reduceIte] at hx343_0)
                      have qi343 : (55 < t336.length) = True := eq_true (by omega)
                      (try rw [show ((55 : Int)).toNat = 55 from rfl] at hx343_0)
                      replace p343 := eq_true p343; replace q343 := eq_true q343
                      go_wp2_with (first | ((with_reducible refine gate_dst (N := 16) rfl ?_); (try (refine gate_guard (by rfl) ?_; dsimp only)); refine nen_err t339 (b := (t339 != 0)) ?_ rfl (of_decide_eq_true (by first | (with_reducible assumption) | assumption))))
                      go_meet
                      case rel => exact ⟨_, (((rd t336 55) != 156)), rs, H', ⟨by first | omega | exact Nat.le_refl _⟩, ⟨ro HO338⟩, ⟨ro HO334⟩, ⟨bk BK335⟩, ⟨bw HB⟩⟩
                    · rw [if_neg c18] at H
                      exact absurd H (by simp)
                  · rw [if_neg c17] at H
                    have c17b0 : ((rd t336 52) == 16) = false := beq_eq_false_iff_ne.mpr c17
                    have c17b1 : ((rd t336 52) != 16) = true := bne_iff_ne.mpr c17
                    have H' := Aside0.mk H
                    clear H
                    obtain ⟨Ao20, co20, eo20⟩ := Kd.R_slice HO338.out
                    subst eo20
                    have p340 : 0 ≤ (0 : Int) := (by omega)
                    have q340 : 0 < (t336.length : Int) := of_decide_eq_true (by first | (with_reducible assumption) | assumption)
                    obtain ⟨ad340, e340, hx340_0⟩ := Kd.at_int (Kd.R_reads' HO338.out).2.2 0 p340 q340
                    cases e340
                    have qi340 : (0 < t336.length) = True := eq_true (by omega)
                    (try rw [show ((0 : Int)).toNat = 0 from rfl] at hx340_0)
                    (try rw [Addr.add_zero'] at hx340_0)
                    replace p340 := eq_true p340; replace q340 := eq_true q340
                    have p341 : 0 ≤ (4 : Int) := (by omega)
                    have q341 : 4 < (t336.length : Int) := of_decide_eq_true (by first | (with_reducible assumption) | assumption)
                    obtain ⟨ad341, e341, hx341_0⟩ := Kd.at_int (Kd.R_reads' HO338.out).2.2 4 p341 q341
                    obtain rfl : ad340 = ad341 := (by injection e341)
                    (try simp only [show (4 : Int).toNat = 4 from rfl, Nat.reduceMul, Nat.reduceEqDiff, Go.Addr.add, ↓reduceIte] at hx341_0)
                    have qi341 : (4 < t336.length) = True := eq_true (by omega)
                    (try rw [show ((4 : Int)).toNat = 4 from rfl] at hx341_0)
                    replace p341 := eq_true p341; replace q341 := eq_true q341
                    have p342 : 0 ≤ (52 : Int) := (by omega)
                    have q342 : 52 < (t336.length : Int) := of_decide_eq_true (by first | (with_reducible assumption) | assumption)
                    obtain ⟨ad342, e342, hx342_0⟩ := Kd.at_int (Kd.R_reads' HO338.out).2.2 52 p342 q342
                    obtain rfl : ad340 = ad342 := (by injection e342)
                    (try simp only [show (52 : Int).toNat = 52 from rfl, Nat.reduceMul, Nat.reduceEqDiff, Go.Addr.add, ↓reduceIte] at hx342_0)
                    have qi342 : (52 < t336.length) = True := eq_true (by omega)
                    (try rw [show ((52 : Int)).toNat = 52 from rfl] at hx342_0)
                    replace p342 := eq_true p342; replace q342 := eq_true q342
                    go_wp2_with (first | ((with_reducible refine gate_dst (N := 16) rfl ?_); (try (refine gate_guard (by rfl) ?_; dsimp only)); refine nen_err t339 (b := (t339 != 0)) ?_ rfl (of_decide_eq_true (by first | (with_reducible assumption) | assumption))))
                    go_meet
                    case rel => exact ⟨_, (true), rs, H', ⟨by first | omega | exact Nat.le_refl _⟩, ⟨ro HO338⟩, ⟨ro HO334⟩, ⟨bk BK335⟩, ⟨bw HB⟩⟩
                · rw [if_neg c16] at H
                  exact absurd H (by simp)
              · rw [if_neg c15] at H
                have c15b0 : ((rd t336 4) == 7) = false := beq_eq_false_iff_ne.mpr c15
                have c15b1 : ((rd t336 4) != 7) = true := bne_iff_ne.mpr c15
                have H' := Aside0.mk H
                clear H
                obtain ⟨Ao21, co21, eo21⟩ := Kd.R_slice HO338.out
                subst eo21
                have p340 : 0 ≤ (0 : Int) := (by omega)
                have q340 : 0 < (t336.length : Int) := of_decide_eq_true (by first | (with_reducible assumption) | assumption)
                obtain ⟨ad340, e340, hx340_0⟩ := Kd.at_int (Kd.R_reads' HO338.out).2.2 0 p340 q340
                cases e340
                have qi340 : (0 < t336.length) = True := eq_true (by omega)
                (try rw [show ((0 : Int)).toNat = 0 from rfl] at hx340_0)
                (try rw [Addr.add_zero'] at hx340_0)
                replace p340 := eq_true p340; replace q340 := eq_true q340
                have p341 : 0 ≤ (4 : Int) := (by omega)
                have q341 : 4 < (t336.length : Int) := of_decide_eq_true (by first | (with_reducible assumption) | assumption)
                obtain ⟨ad341, e341, hx341_0⟩ := Kd.at_int (Kd.R_reads' HO338.out).2.2 4 p341 q341
                obtain rfl : ad340 = ad341 := (by injection e341)
                (try simp only [show (4 : Int).toNat = 4 from rfl, Nat.reduceMul, Nat.reduceEqDiff, Go.Addr.add, ↓reduceIte] at hx341_0)
                have qi341 : (4 < t336.length) = True := eq_true (by omega)
                (try rw [show ((4 : Int)).toNat = 4 from rfl] at hx341_0)
                replace p341 := eq_true p341; replace q341 := eq_true q341
                go_wp2_with (first | ((with_reducible refine gate_dst (N := 16) rfl ?_); (try (refine gate_guard (by rfl) ?_; dsimp only)); refine nen_err t339 (b := (t339 != 0)) ?_ rfl (of_decide_eq_true (by first | (with_reducible assumption) | assumption))))
                go_meet
                case rel => exact ⟨_, (true), rs, H', ⟨by first | omega | exact Nat.le_refl _⟩, ⟨ro HO338⟩, ⟨ro HO334⟩, ⟨bk BK335⟩, ⟨bw HB⟩⟩
            · rw [if_neg c14] at H
              exact absurd H (by simp)
          · rw [if_neg c13] at H
            have c13b0 : ((rd t336 0) == 84) = false := beq_eq_false_iff_ne.mpr c13
            have c13b1 : ((rd t336 0) != 84) = true := bne_iff_ne.mpr c13
            have H' := Aside0.mk H
            clear H
            obtain ⟨Ao22, co22, eo22⟩ := Kd.R_slice HO338.out
            subst eo22
            have p340 : 0 ≤ (0 : Int) := (by omega)
            have q340 : 0 < (t336.length : Int) := of_decide_eq_true (by first | (with_reducible assumption) | assumption)
            obtain ⟨ad340, e340, hx340_0⟩ := Kd.at_int (Kd.R_reads' HO338.out).2.2 0 p340 q340
            cases e340
            have qi340 : (0 < t336.length) = True := eq_true (by omega)
            (try rw [show ((0 : Int)).toNat = 0 from rfl] at hx340_0)
            (try rw [Addr.add_zero'] at hx340_0)
            replace p340 := eq_true p340; replace q340 := eq_true q340
            go_wp2_with (first | ((with_reducible refine gate_dst (N := 16) rfl ?_); (try (refine gate_guard (by rfl) ?_; dsimp only)); refine nen_err t339 (b := (t339 != 0)) ?_ rfl (of_decide_eq_true (by first | (with_reducible assumption) | assumption))))
            go_meet
            case rel => exact ⟨_, (true), rs, H', ⟨by first | omega | exact Nat.le_refl _⟩, ⟨ro HO338⟩, ⟨ro HO334⟩, ⟨bk BK335⟩, ⟨bw HB⟩⟩
        · rw [if_neg c12] at H
          exact absurd H (by simp)
      · rw [if_neg c11] at H
        have c11b0 : ((t336.length : Int) == 56) = false := beq_eq_false_iff_ne.mpr c11
        have c11b1 : ((t336.length : Int) != 56) = true := bne_iff_ne.mpr c11
        have H' := Aside0.mk H
        clear H
        obtain ⟨Ao23, co23, eo23⟩ := Kd.R_slice HO338.out
        subst eo23
        go_wp2_with (first | ((with_reducible refine gate_dst (N := 16) rfl ?_); (try (refine gate_guard (by rfl) ?_; dsimp only)); refine nen_err t339 (b := (t339 != 0)) ?_ rfl (of_decide_eq_true (by first | (with_reducible assumption) | assumption))))
        go_meet
        case rel => exact ⟨_, (true), rs, H', ⟨by first | omega | exact Nat.le_refl _⟩, ⟨ro HO338⟩, ⟨ro HO334⟩, ⟨bk BK335⟩, ⟨bw HB⟩⟩
    · rw [if_neg c10] at H
      have c10b0 : (t339 == 0) = false := beq_eq_false_iff_ne.mpr c10
      have c10b1 : (t339 != 0) = true := bne_iff_ne.mpr c10
      (first | rw [c10b0] | (simp only [i64_w, i32_w]; rw [c10b0]) | skip)
      have H' := Aside0.mk H
      clear H
      go_wp2_with (first | ((with_reducible refine gate_dst (N := 16) rfl ?_); (try (refine gate_guard (by rfl) ?_; dsimp only)); refine nen_err t339 (b := (t339 != 0)) ?_ rfl (of_decide_eq_true (by first | (with_reducible assumption) | assumption))))
      go_meet
      case rel => exact ⟨_, (true), rs, H', ⟨by first | omega | exact Nat.le_refl _⟩, ⟨ro HO338⟩, ⟨ro HO334⟩, ⟨bk BK335⟩, ⟨bw HB⟩⟩
  · rw [if_neg c9] at H
    exact absurd H (by simp)
 case rest =>
  clear HC2; (try clear c1); (try clear c2); (try clear p2); (try clear p3); (try clear q3); (try clear hx3); (try clear qi3); (try clear c9); (try clear c9b0); (try clear c9b1); (try clear c10); (try clear c10b0); (try clear c10b1); (try clear c11); (try clear c11b0); (try clear c11b1); (try clear c12); (try clear c12b0); (try clear c12b1); (try clear c13); (try clear c13b0); (try clear c13b1); (try clear c14); (try clear c14b0); (try clear c14b1); (try clear c15); (try clear c15b0); (try clear c15b1); (try clear c16); (try clear c16b0); (try clear c16b1); (try clear c17); (try clear c17b0); (try clear c17b1); (try clear c18); (try clear c18b0); (try clear c18b1); (try clear c20); (try clear hcz7_0); (try clear hcz7_1); (try clear hcz7_2); (try clear hfz7_0); (try clear hfz7_1); (try clear hfz7_2); (try clear hx340_0); (try clear hx341_0); (try clear hx342_0); (try clear hx343_0); (try clear p340); (try clear p341); (try clear p342); (try clear p343); (try clear q340); (try clear q341); (try clear q342); (try clear q343)
  obtain ⟨kq, x45_1, rfl, HA, HJ1, HO_2, HO_336002, BK335, HB⟩ := hcut
  cases kq with
  | zero => exact absurd HA.out (by simp [turnstilelaw14_awake.j0])
  | succ kj1 =>
   have H := HA.out; clear HA
   simp only [turnstilelaw14_awake.j0] at H
   by_cases c24 : x45_1 = true
   · subst c24
     have H1 : (some false) = some r := by rw [if_pos rfl] at H; exact H
     clear H; have H := H1; clear H1
     obtain rfl := Option.some.inj H
     go_wp2
     go_ret
     exact ⟨re, bw HB⟩
   · replace c24 := Bool.eq_false_iff.mpr c24
     subst c24
     have H1 : ((image_Decode.f t336).bind fun bt344 => (if 0 ≤ bt344.2.2.2 then (if bt344.2.2.2 = 0 then ((turnstilelaw14_alike.f kj1 bt344.1 bt344.2.1 bt344.2.2.1 7 100 y332).bind fun t351 => (some t351)) else (some false)) else (none))) = some r := by rw [if_neg (show ¬ (false = true) by decide)] at H; exact H
     clear H; have H := H1; clear H1; replace H := Option.bind_eq_some_iff.mp H
     obtain ⟨⟨t344, t345, t346, t349⟩, A250, H⟩ := H
     replace H : (if 0 ≤ t349 then (if t349 = 0 then ((turnstilelaw14_alike.f kj1 t344 t345 t346 7 100 y332).bind fun t351 => (some t351)) else (some false)) else (none)) = some r := H
     have A25 := Aside0.mk A250; clear A250
     by_cases c26 : 0 ≤ t349
     · rw [if_pos c26] at H
       have c26b0 := eq_true c26
       have c26b1 : decide (0 ≤ t349) = true := decide_eq_true c26
       clear c26
       by_cases c27 : t349 = 0
       · rw [if_pos c27] at H
         have c27b0 : (t349 == 0) = true := beq_iff_eq.mpr c27
         have c27b1 : (t349 != 0) = false := bne_eq_false_iff_eq.mpr c27
         clear c27; replace H := Option.bind_eq_some_iff.mp H
         obtain ⟨t351, A280, H⟩ := H
         replace H : (some t351) = some r := H
         have A28 := Aside0.mk A280; clear A280
         obtain rfl := Option.some.inj H
         obtain ⟨Ao29, co29, eo29⟩ := Kd.R_slice HO_2.out
         subst eo29
         go_wp2_with (first | ((with_reducible refine gate_callee (f := 27) rfl ?_); refine gl (some 48) Tryd.func27 #[.slice Ao29 t336.length co29] ?_; (with_reducible refine (image_Decode.calls _ _ t336 t344 t345 t346 t349 _ ?side3 ?side1 ?side2 A25.out).mono ?_); (case side1 => exact co (Kd.R_reads' HO_2.out).2.2); (case side2 => exact (Kd.R_reads' HO_2.out).2.1); (case side3 => exact (HERR.out.below (bw HB))); rintro e w30 ⟨v347, rfl, ho0, hb⟩; refine ⟨_, rfl, ?_⟩; have HO348 := Aside0.mk (Kd.R_lower (Kd.R_new' ho0 (Kd.R_lt (ro HO_336002))) (below_size (bw HB))); replace HO_2 := Aside0.mk (Kd.R_below (ro HO_2) hb); replace HO_336002 := Aside0.mk (Kd.R_elder' (ro HO_336002) (Kd.R_base ho0) hb); replace BK335 := bb BK335 hb; replace HB := bs HB hb; (try clear hb); (try clear hb2); (try clear hk); (try clear hi); (try clear ho0)) | ((with_reducible refine gate_dst (N := 4) rfl ?_); (try (refine gate_guard (by rfl) ?_; dsimp only)); refine bx 4 #[.int .u64 0, .int .u64 0, .slice none 0 0] 51 ?_; intro gb350 hg w31 hbox hb; have BK350 := Aside0.mk (hbox); have GW350 := sz HB hg; have GE350 := sz HB hg; have NB335_350 := nl BK335 hg; have NB350_335 := nr BK335 hg; replace HO_2 := Aside0.mk (Kd.R_below (ro HO_2) hb); replace HO_336002 := Aside0.mk (Kd.R_below (ro HO_336002) hb); replace HO348 := Aside0.mk (Kd.R_below (ro HO348) hb); replace BK335 := bb BK335 hb; replace HB := bs HB hb; clear hb hbox hg; have hnb32 := NB350_335.out; have hnc32 := NB335_350.out; obtain ⟨hcz33_0, hcz33_1, hcz33_2, hfz33_0, hfz33_1, hfz33_2⟩ := bc3 BK350; obtain ⟨Ao34, co34, eo34⟩ := Kd.R_slice HO348.out; subst eo34; obtain ⟨hcz35_0, hcz35_1, hcz35_2, hfz35_0, hfz35_1, hfz35_2⟩ := bc3 BK335) | ((with_reducible refine gate_dst (N := 52) rfl ?_); (try (refine gate_guard (by rfl) ?_; dsimp only)); refine eqn_err t349 (b := (t349 == 0)) ?_ rfl (of_decide_eq_true (by first | (with_reducible assumption) | assumption))) | (go_at_call 28; (with_reducible refine (turnstilelaw14_alike.calls kj1 t344 t345 _ _ t346 7 100 _ _ y332 t351 _ ?side1 ?side2 ?side3 ?side4 A28.out).mono ?_); (case side1 => refine (Kd.R_reads' (e := 79) (base := w.heap.size) (ok := fun k_ => (True ∧ some k_ ≠ (.slice Ao5 y332.length co5 : Value).ownBlock)) (n := t346.length) (c := co34) ?_).2.2; exact (by (with_reducible repeat (first | apply Kd.R_alloc | apply Kd.R_drewN | apply Kd.R_drew)); exact (Kd.R_mono (Kd.R_far (p := ⟨gb350, 2, none⟩) (Kd.R_far (p := ⟨gb350, 1, none⟩) (Kd.R_far (p := ⟨gb350, 0, none⟩) (Kd.R_types HO348.out BK350.out (by decide)) (fun _ hk => hk.2) (.int .u64 t344)) (fun _ hk => hk.2) (.int .u64 t345)) (fun _ hk => hk.2) (.slice Ao34 t346.length co34)) (fun _ h_ => h_.1)))); (case side2 => exact (Kd.R_reads' HO348.out).2.1); (case side3 => refine (Kd.R_reads' (e := 79) (base := w.heap.size) (ok := fun k_ => (True ∧ some k_ ≠ (.slice Ao34 t346.length co34 : Value).ownBlock)) (n := y332.length) (c := co5) ?_).2.2; exact (by (with_reducible repeat (first | apply Kd.R_alloc | apply Kd.R_drewN | apply Kd.R_drew)); exact (Kd.R_mono (Kd.R_far (p := ⟨gb350, 2, none⟩) (Kd.R_far (p := ⟨gb350, 1, none⟩) (Kd.R_far (p := ⟨gb350, 0, none⟩) (Kd.R_types HO_336002.out BK350.out (by decide)) (fun _ hk => hk.2) (.int .u64 t344)) (fun _ hk => hk.2) (.int .u64 t345)) (fun _ hk => hk.2) (.slice Ao34 t346.length co34)) (fun _ h_ => h_.1)))); (case side4 => exact (Kd.R_reads' HO_336002.out).2.1); rintro e w36 ⟨rfl, hb⟩; have n0_ := Aside0.mk (Kd.R_below (by (with_reducible repeat (first | apply Kd.R_alloc | apply Kd.R_drewN | apply Kd.R_drew)); exact (Kd.R_mono (Kd.R_far (p := ⟨gb350, 2, none⟩) (Kd.R_far (p := ⟨gb350, 1, none⟩) (Kd.R_far (p := ⟨gb350, 0, none⟩) (Kd.R_types HO_2.out BK350.out (by decide)) (fun _ hk => hk.2) (.int .u64 t344)) (fun _ hk => hk.2) (.int .u64 t345)) (fun _ hk => hk.2) (.slice Ao34 t346.length co34)) (fun _ h_ => h_.1))) hb); have n1_ := Aside0.mk (Kd.R_below (by (with_reducible repeat (first | apply Kd.R_alloc | apply Kd.R_drewN | apply Kd.R_drew)); exact (Kd.R_mono (Kd.R_far (p := ⟨gb350, 2, none⟩) (Kd.R_far (p := ⟨gb350, 1, none⟩) (Kd.R_far (p := ⟨gb350, 0, none⟩) (Kd.R_types HO_336002.out BK350.out (by decide)) (fun _ hk => hk.2) (.int .u64 t344)) (fun _ hk => hk.2) (.int .u64 t345)) (fun _ hk => hk.2) (.slice Ao34 t346.length co34)) (fun _ h_ => h_.1))) hb); have n2_ := Aside0.mk (Kd.R_below (by (with_reducible repeat (first | apply Kd.R_alloc | apply Kd.R_drewN | apply Kd.R_drew)); exact (Kd.R_mono (Kd.R_far (p := ⟨gb350, 2, none⟩) (Kd.R_far (p := ⟨gb350, 1, none⟩) (Kd.R_far (p := ⟨gb350, 0, none⟩) (Kd.R_types HO348.out BK350.out (by decide)) (fun _ hk => hk.2) (.int .u64 t344)) (fun _ hk => hk.2) (.int .u64 t345)) (fun _ hk => hk.2) (.slice Ao34 t346.length co34)) (fun _ h_ => h_.1))) hb); have n3_ := bb BK335 hb; have n4_ := bbp (.cells #[.int .u64 t344, .int .u64 t345, .slice Ao34 t346.length co34] 51 (0, 0)) BK350 hb; have n5_ := bs HB hb; clear HO_2; clear HO_336002; clear HO348; clear BK335; clear BK350; clear HB; have HO_2 := n0_; have HO_336002 := n1_; have HO348 := n2_; have BK335 := n3_; have BK350 := n4_; have HB := n5_; clear n0_ n1_ n2_ n3_ n4_ n5_; (try clear hb); (try clear hb2); (try clear hk); (try clear hi)))
         go_ret
         exact ⟨re, bw HB⟩
       · rw [if_neg c27] at H
         have c27b0 : (t349 == 0) = false := beq_eq_false_iff_ne.mpr c27
         have c27b1 : (t349 != 0) = true := bne_iff_ne.mpr c27
         obtain rfl := Option.some.inj H
         obtain ⟨Ao37, co37, eo37⟩ := Kd.R_slice HO_2.out
         subst eo37
         go_wp2_with (first | ((with_reducible refine gate_callee (f := 27) rfl ?_); refine gl (some 48) Tryd.func27 #[.slice Ao37 t336.length co37] ?_; (with_reducible refine (image_Decode.calls _ _ t336 t344 t345 t346 t349 _ ?side3 ?side1 ?side2 A25.out).mono ?_); (case side1 => exact co (Kd.R_reads' HO_2.out).2.2); (case side2 => exact (Kd.R_reads' HO_2.out).2.1); (case side3 => exact (HERR.out.below (bw HB))); rintro e w38 ⟨v347, rfl, ho0, hb⟩; refine ⟨_, rfl, ?_⟩; have HO348 := Aside0.mk (Kd.R_lower (Kd.R_new' ho0 (Kd.R_lt (ro HO_336002))) (below_size (bw HB))); replace HO_2 := Aside0.mk (Kd.R_below (ro HO_2) hb); replace HO_336002 := Aside0.mk (Kd.R_elder' (ro HO_336002) (Kd.R_base ho0) hb); replace BK335 := bb BK335 hb; replace HB := bs HB hb; (try clear hb); (try clear hb2); (try clear hk); (try clear hi); (try clear ho0)) | ((with_reducible refine gate_dst (N := 4) rfl ?_); (try (refine gate_guard (by rfl) ?_; dsimp only)); refine bx 4 #[.int .u64 0, .int .u64 0, .slice none 0 0] 51 ?_; intro gb350 hg w39 hbox hb; have BK350 := Aside0.mk (hbox); have GW350 := sz HB hg; have GE350 := sz HB hg; have NB335_350 := nl BK335 hg; have NB350_335 := nr BK335 hg; replace HO_2 := Aside0.mk (Kd.R_below (ro HO_2) hb); replace HO_336002 := Aside0.mk (Kd.R_below (ro HO_336002) hb); replace HO348 := Aside0.mk (Kd.R_below (ro HO348) hb); replace BK335 := bb BK335 hb; replace HB := bs HB hb; clear hb hbox hg; have hnb40 := NB350_335.out; have hnc40 := NB335_350.out; obtain ⟨hcz41_0, hcz41_1, hcz41_2, hfz41_0, hfz41_1, hfz41_2⟩ := bc3 BK350; obtain ⟨Ao42, co42, eo42⟩ := Kd.R_slice HO348.out; subst eo42) | ((with_reducible refine gate_dst (N := 52) rfl ?_); (try (refine gate_guard (by rfl) ?_; dsimp only)); refine eqn_err t349 (b := (t349 == 0)) ?_ rfl (of_decide_eq_true (by first | (with_reducible assumption) | assumption))))
         go_ret
         exact ⟨re, bw HB⟩
     · rw [if_neg c26] at H
       exact absurd H (by simp)

end Go.Proofs.YtkgjepmminmjjaaDoor.E
