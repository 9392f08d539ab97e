/- Written by the session's own program hyb.py: what functions of the program compute; Lean checks it. -/
import Derived.Test.YtkgjepmminmjjaaDoorEx0
import Derived.Test.YtkgjepmminmjjaaDoorEx3
import Derived.Test.YtkgjepmminmjjaaDoorEx15
import Derived.Test.YtkgjepmminmjjaaDoorEx17
import Derived.Test.YtkgjepmminmjjaaDoorEx20
import Derived.Test.YtkgjepmminmjjaaDoorWErr
namespace Go.Proofs.YtkgjepmminmjjaaDoor.E
open Go.RowKit Go.Proofs.YtkgjepmminmjjaaDoorW.PrintWords Go.Proofs.YtkgjepmminmjjaaDoorW.PrintLast Go.Proofs.YtkgjepmminmjjaaDoorW.PrintMore Go.Proofs.YtkgjepmminmjjaaDoorW.PrintShort
attribute [local go_sem] run_Add64 run_Sub64
attribute [local go_sem] max2_int min2_int max_two min_two max_three min_three max_four min_four   -- for this text's walks alone
set_option linter.unusedVariables false
set_option linter.unusedSimpArgs false

attribute [local go_sem high] eqA32
/-! ### turnstilelaw11_same: function 19 -/
def turnstilelaw11_same.l0 : Nat → List Int → List Int → Int → Option (Bool)
  | 0, _, _, _ => none
  | k + 1, x0, x1, x5 => if x5 < (x0.length : Int) then (if 0 ≤ x5 then (if x5 < (x1.length : Int) then (if (rd x0 x5) = (rd x1 x5) then (turnstilelaw11_same.l0 k x0 x1 (wrap64 (x5 + 1))) else (some false)) else (none)) else (none)) else (some true)
def turnstilelaw11_same.f (k : Nat) (l0 : List Int) (l1 : List Int) : Option (Bool) := if (l0.length : Int) = (l1.length : Int) then (turnstilelaw11_same.l0 k l0 l1 0) else (some false)
theorem turnstilelaw11_same.mono_l : ∀ k, (∀ y0 y1 y2, LeO (turnstilelaw11_same.l0 k y0 y1 y2) (turnstilelaw11_same.l0 (k + 1) y0 y1 y2))
  | 0 => fun _ _ _ r h => by simp [turnstilelaw11_same.l0] at h
  | k + 1 => by
    have ih0 := turnstilelaw11_same.mono_l k
    · intro y0 y1 y2
      unfold turnstilelaw11_same.l0
      repeat' first
      | (with_reducible exact ih0 _ _ _)
      | (with_reducible exact LeO.refl _)
      | (with_reducible exact LeO.none _)
      | (with_reducible refine LeO.ite ?_ ?_)
      | (with_reducible refine LeO.bind ?_ (fun _ => ?_))
      | exact ih0 _ _ _
      | exact LeO.none _
      | refine LeO.ite ?_ ?_
      | refine LeO.bind ?_ (fun _ => ?_)
theorem turnstilelaw11_same.mono : ∀ a0 a1 k, LeO (turnstilelaw11_same.f k a0 a1) (turnstilelaw11_same.f (k + 1) a0 a1) := by
  intro a0 a1 k
  have ih0 := turnstilelaw11_same.mono_l k
  unfold turnstilelaw11_same.f
  repeat' first
      | (with_reducible exact ih0 _ _ _)
      | (with_reducible exact LeO.refl _)
      | (with_reducible exact LeO.none _)
      | (with_reducible refine LeO.ite ?_ ?_)
      | (with_reducible refine LeO.bind ?_ (fun _ => ?_))
      | exact ih0 _ _ _
      | exact LeO.none _
      | refine LeO.ite ?_ ?_
      | refine LeO.bind ?_ (fun _ => ?_)
set_option maxHeartbeats 8000000 in
set_option maxRecDepth 100000 in
theorem turnstilelaw11_same.calls (k : Nat) (A0 : Option Addr) (c0 : Nat) (l0 : List Int) (A1 : Option Addr) (c1 : Nat) (l1 : List Int) (r : Bool) (w : World) (hr0 : Kd.C (Kd.int .u8) w A0 l0.length l0) (hc0 : l0.length ≤ c0) (hr1 : Kd.C (Kd.int .u8) w A1 l1.length l1) (hc1 : l1.length ≤ c1) (h : turnstilelaw11_same.f k l0 l1 = some r) :
    Calls Tryd.prog 19 #[.slice A0 l0.length c0, .slice A1 l1.length c1] w fun e w' => e = .returned (.bool r) ∧ Drawn0 w w' := by
  have HR0 := Aside0.mk hr0
  have HC0 := Aside0.mk hc0
  clear hr0 hc0
  have HR1 := Aside0.mk hr1
  have HC1 := Aside0.mk hc1
  clear hr1 hc1
  have H : (if (l0.length : Int) = (l1.length : Int) then (turnstilelaw11_same.l0 k l0 l1 0) else (some false)) = some r := h
  clear h
  by_cases c3 : (l0.length : Int) = (l1.length : Int)
  · rw [if_pos c3] at H
    have c3b0 : ((l0.length : Int) == (l1.length : Int)) = true := beq_iff_eq.mpr c3
    have c3b1 : ((l0.length : Int) != (l1.length : Int)) = false := bne_eq_false_iff_eq.mpr c3
    have c3b2 : (l0.length == l1.length) = true := by first | simpa using c3 | (simp at c3 ⊢; omega)
    clear c3
    have H' := Aside0.mk H
    clear H
    go_enter Tryd.func19, Tryd.ntmps19
    go_wp2
    repeat (go_quiet (fail); try go_wp2)
    go_loopg [5] k (fun kq v5 w' => ∃ (x5_1 : Int), v5 = .int .i64 x5_1 ∧ Aside0 (turnstilelaw11_same.l0 kq l0 l1 x5_1 = some r) ∧ Aside0 (kq ≤ k) ∧ Drawn0 w w')
    case atStart => exact ⟨(0), rs, H', ⟨Nat.le_refl _⟩, by repeat (first | exact Drawn0.refl _ | apply Drawn0.step)⟩
    case round =>
      clear H'
      try clear c1
      try clear p2
      try clear c3
      try clear c3b0
      try clear c3b1
      try clear c3b2
      obtain ⟨x5_1, rfl, HA, HK1, ⟨m1, rfl⟩⟩ := hrel
      cases gk with
      | zero => exact absurd HA.out (by simp [turnstilelaw11_same.l0])
      | succ k1 =>
        have H := HA.out
        clear HA
        simp only [turnstilelaw11_same.l0] at H
        by_cases c4 : x5_1 < (l0.length : Int)
        · rw [if_pos c4] at H
          have c4b0 : decide (x5_1 < (l0.length : Int)) = true := decide_eq_true c4
          clear c4
          by_cases c5 : 0 ≤ x5_1
          · rw [if_pos c5] at H
            have c5b0 : decide (0 ≤ x5_1) = true := decide_eq_true c5
            clear c5
            by_cases c6 : x5_1 < (l1.length : Int)
            · rw [if_pos c6] at H
              have c6b0 : decide (x5_1 < (l1.length : Int)) = true := decide_eq_true c6
              clear c6
              by_cases c7 : (rd l0 x5_1) = (rd l1 x5_1)
              · rw [if_pos c7] at H
                have c7b0 : ((rd l0 x5_1) == (rd l1 x5_1)) = true := beq_iff_eq.mpr c7
                have c7b1 : ((rd l0 x5_1) != (rd l1 x5_1)) = false := bne_eq_false_iff_eq.mpr c7
                clear c7
                have H' := Aside0.mk H
                clear H
                have p297 : 0 ≤ (x5_1 : Int) := of_decide_eq_true (by first | (with_reducible assumption) | assumption)
                have q297 : x5_1 < (l0.length : Int) := of_decide_eq_true (by first | (with_reducible assumption) | assumption)
                obtain ⟨ad297, e297, hx297_0⟩ := Kd.at_int HR0.out x5_1 p297 q297
                cases e297
                replace p297 := eq_true p297
                replace q297 := eq_true q297
                have p298 : 0 ≤ (x5_1 : Int) := of_decide_eq_true (by first | (with_reducible assumption) | assumption)
                have q298 : x5_1 < (l1.length : Int) := of_decide_eq_true (by first | (with_reducible assumption) | assumption)
                obtain ⟨ad298, e298, hx298_0⟩ := Kd.at_int HR1.out x5_1 p298 q298
                cases e298
                replace p298 := eq_true p298
                replace q298 := eq_true q298
                go_wp2
                repeat (go_quiet (fail); try go_wp2)
                go_roundg k1
                case measure => have := HK1.out; omega
                case rel => exact ⟨(wrap64 (x5_1 + 1)), rs, H', ⟨by have := HK1.out; omega⟩, by repeat (first | exact Drawn0.refl _ | apply Drawn0.step)⟩
              · rw [if_neg c7] at H
                have c7b0 : ((rd l0 x5_1) == (rd l1 x5_1)) = false := beq_eq_false_iff_ne.mpr c7
                have c7b1 : ((rd l0 x5_1) != (rd l1 x5_1)) = true := bne_iff_ne.mpr c7
                obtain rfl := Option.some.inj H
                have p297 : 0 ≤ (x5_1 : Int) := of_decide_eq_true (by first | (with_reducible assumption) | assumption)
                have q297 : x5_1 < (l0.length : Int) := of_decide_eq_true (by first | (with_reducible assumption) | assumption)
                obtain ⟨ad297, e297, hx297_0⟩ := Kd.at_int HR0.out x5_1 p297 q297
                cases e297
                replace p297 := eq_true p297
                replace q297 := eq_true q297
                have p298 : 0 ≤ (x5_1 : Int) := of_decide_eq_true (by first | (with_reducible assumption) | assumption)
                have q298 : x5_1 < (l1.length : Int) := of_decide_eq_true (by first | (with_reducible assumption) | assumption)
                obtain ⟨ad298, e298, hx298_0⟩ := Kd.at_int HR1.out x5_1 p298 q298
                cases e298
                replace p298 := eq_true p298
                replace q298 := eq_true q298
                go_wp2
                repeat (go_quiet (fail); try go_wp2)
                go_ret
                exact ⟨rs, by repeat (first | exact Drawn0.refl _ | apply Drawn0.step)⟩
            · rw [if_neg c6] at H
              exact absurd H (by simp)
          · rw [if_neg c5] at H
            exact absurd H (by simp)
        · rw [if_neg c4] at H
          have c4b0 : decide (x5_1 < (l0.length : Int)) = false := decide_eq_false c4
          clear c4
          obtain rfl := Option.some.inj H
          go_wp2
          repeat (go_quiet (fail); try go_wp2)
          go_ret
          exact ⟨rs, by repeat (first | exact Drawn0.refl _ | apply Drawn0.step)⟩
  · rw [if_neg c3] at H
    have c3b0 : ((l0.length : Int) == (l1.length : Int)) = false := beq_eq_false_iff_ne.mpr c3
    have c3b1 : ((l0.length : Int) != (l1.length : Int)) = true := bne_iff_ne.mpr c3
    have c3b2 : (l0.length == l1.length) = false := by first | simpa using c3 | (simp at c3 ⊢; omega)
    obtain rfl := Option.some.inj H
    go_enter Tryd.func19, Tryd.ntmps19
    go_wp2
    repeat (go_quiet (fail); try go_wp2)
    go_ret
    exact ⟨rs, by repeat (first | exact Drawn0.refl _ | apply Drawn0.step)⟩

/-! ### turnstilelaw11_awake: function 13 -/
def turnstilelaw11_awake.j0 : Nat → List Int → Bool → Int → Int → ByteArray → Int → Int → Int → Int → Int → Int → Int → Int → Option (Bool)
  | 0, _, _, _, _, _, _, _, _, _, _, _, _, _ => none
  | k + 1, x2, x18, x300000, x300001, x300002, x300003, x300004, x300005, x300006, x300007, x300008, x300009, x300010 => if x18 = true then (some false) else ((record_Decode.f k x2).bind fun bt308 => (if 0 ≤ bt308.2.2.2.2.2.2.2.2.2.2.2 then (if bt308.2.2.2.2.2.2.2.2.2.2.2 = 0 then (if (bt308.1 == x300000 && (bt308.2.1 == x300001 && (bt308.2.2.1.toList == x300002.toList && ((bt308.2.2.2.1 == x300003 && (bt308.2.2.2.2.1 == x300004 && (bt308.2.2.2.2.2.1 == x300005 && (bt308.2.2.2.2.2.2.1 == x300006 && (bt308.2.2.2.2.2.2.2.1 == x300007))))) && ((bt308.2.2.2.2.2.2.2.2.1 == x300008 && (bt308.2.2.2.2.2.2.2.2.2.1 == x300009 && (bt308.2.2.2.2.2.2.2.2.2.2.1 == x300010)))))))) = true then ((record_Valid.f k bt308.1 bt308.2.1 bt308.2.2.1 bt308.2.2.2.1 bt308.2.2.2.2.1 bt308.2.2.2.2.2.1 bt308.2.2.2.2.2.2.1 bt308.2.2.2.2.2.2.2.1 bt308.2.2.2.2.2.2.2.2.1 bt308.2.2.2.2.2.2.2.2.2.1 bt308.2.2.2.2.2.2.2.2.2.2.1).bind fun t321 => (some t321)) else (some false)) else (some false)) else (none)))
def turnstilelaw11_awake.f (k : Nat)  : Option (Bool) := (record_Encode.f k 2 5 (⟨#[107]⟩ : ByteArray) 0 0 0 0 0 0 0 0).bind fun bt300 => (if 0 ≤ bt300.2 then (if bt300.2 = 0 then ((turnstilelaw11_same.f k bt300.1 (([2, 5, 0, 0, 0, 0, 0, 0, 0, 1, 0, 107] : List Int))).bind fun t307 => (turnstilelaw11_awake.j0 k bt300.1 (!t307) 2 5 (⟨#[107]⟩ : ByteArray) 0 0 0 0 0 0 0 0)) else (turnstilelaw11_awake.j0 k bt300.1 true 2 5 (⟨#[107]⟩ : ByteArray) 0 0 0 0 0 0 0 0)) else (none))
theorem turnstilelaw11_awake.mono_l : ∀ k, (∀ y0 y1 y2 y3 y4 y5 y6 y7 y8 y9 y10 y11 y12, LeO (turnstilelaw11_awake.j0 k y0 y1 y2 y3 y4 y5 y6 y7 y8 y9 y10 y11 y12) (turnstilelaw11_awake.j0 (k + 1) y0 y1 y2 y3 y4 y5 y6 y7 y8 y9 y10 y11 y12))
  | 0 => fun _ _ _ _ _ _ _ _ _ _ _ _ _ r h => by simp [turnstilelaw11_awake.j0] at h
  | k + 1 => by
    have ih0 := turnstilelaw11_awake.mono_l k
    · intro y0 y1 y2 y3 y4 y5 y6 y7 y8 y9 y10 y11 y12
      unfold turnstilelaw11_awake.j0
      repeat' first
      | (with_reducible exact ih0 _ _ _ _ _ _ _ _ _ _ _ _ _)
      | (with_reducible exact record_Decode.mono _ _)
      | (with_reducible exact record_Encode.mono _ _ _ _ _ _ _ _ _ _ _ _)
      | (with_reducible exact record_Valid.mono _ _ _ _ _ _ _ _ _ _ _ _)
      | (with_reducible exact turnstilelaw11_same.mono _ _ _)
      | (with_reducible exact LeO.refl _)
      | (with_reducible exact LeO.none _)
      | (with_reducible refine LeO.ite ?_ ?_)
      | (with_reducible refine LeO.bind ?_ (fun _ => ?_))
      | exact ih0 _ _ _ _ _ _ _ _ _ _ _ _ _
      | exact record_Decode.mono _ _
      | exact record_Encode.mono _ _ _ _ _ _ _ _ _ _ _ _
      | exact record_Valid.mono _ _ _ _ _ _ _ _ _ _ _ _
      | exact turnstilelaw11_same.mono _ _ _
      | exact LeO.none _
      | refine LeO.ite ?_ ?_
      | refine LeO.bind ?_ (fun _ => ?_)
theorem turnstilelaw11_awake.mono : ∀ k, LeO (turnstilelaw11_awake.f k ) (turnstilelaw11_awake.f (k + 1) ) := by
  intro  k
  have ih0 := turnstilelaw11_awake.mono_l k
  unfold turnstilelaw11_awake.f
  repeat' first
      | (with_reducible exact ih0 _ _ _ _ _ _ _ _ _ _ _ _ _)
      | (with_reducible exact record_Decode.mono _ _)
      | (with_reducible exact record_Encode.mono _ _ _ _ _ _ _ _ _ _ _ _)
      | (with_reducible exact record_Valid.mono _ _ _ _ _ _ _ _ _ _ _ _)
      | (with_reducible exact turnstilelaw11_same.mono _ _ _)
      | (with_reducible exact LeO.refl _)
      | (with_reducible exact LeO.none _)
      | (with_reducible refine LeO.ite ?_ ?_)
      | (with_reducible refine LeO.bind ?_ (fun _ => ?_))
      | exact ih0 _ _ _ _ _ _ _ _ _ _ _ _ _
      | exact record_Decode.mono _ _
      | exact record_Encode.mono _ _ _ _ _ _ _ _ _ _ _ _
      | exact record_Valid.mono _ _ _ _ _ _ _ _ _ _ _ _
      | exact turnstilelaw11_same.mono _ _ _
      | exact LeO.none _
      | refine LeO.ite ?_ ?_
      | refine LeO.bind ?_ (fun _ => ?_)
set_option maxHeartbeats 8000000 in
set_option maxRecDepth 100000 in
theorem turnstilelaw11_awake.calls (k : Nat) [Errs]  (r : Bool) (w : World) (hE : Sent w) (h : turnstilelaw11_awake.f k  = some r) :
    Calls Tryd.prog 13 #[] w fun e w' => e = .returned (.bool r) ∧ Below w.heap.size w w' := by
  have hu32 := Tryd.underlying32
  have hu37 := Tryd.underlying37
  have HERR := Aside0.mk hE
  clear hE
  have HB := Aside0.mk (Below.refl w.heap.size w)
  have H : ((record_Encode.f k 2 5 (⟨#[107]⟩ : ByteArray) 0 0 0 0 0 0 0 0).bind fun bt300 => (if 0 ≤ bt300.2 then (if bt300.2 = 0 then ((turnstilelaw11_same.f k bt300.1 (([2, 5, 0, 0, 0, 0, 0, 0, 0, 1, 0, 107] : List Int))).bind fun t307 => (turnstilelaw11_awake.j0 k bt300.1 (!t307) 2 5 (⟨#[107]⟩ : ByteArray) 0 0 0 0 0 0 0 0)) else (turnstilelaw11_awake.j0 k bt300.1 true 2 5 (⟨#[107]⟩ : ByteArray) 0 0 0 0 0 0 0 0)) else (none))) = some r := h
  clear h
  replace H := Option.bind_eq_some_iff.mp H
  obtain ⟨⟨t300, t303⟩, A10, H⟩ := H
  replace H : (if 0 ≤ t303 then (if t303 = 0 then ((turnstilelaw11_same.f k t300 (([2, 5, 0, 0, 0, 0, 0, 0, 0, 1, 0, 107] : List Int))).bind fun t307 => (turnstilelaw11_awake.j0 k t300 (!t307) 2 5 (⟨#[107]⟩ : ByteArray) 0 0 0 0 0 0 0 0)) else (turnstilelaw11_awake.j0 k t300 true 2 5 (⟨#[107]⟩ : ByteArray) 0 0 0 0 0 0 0 0)) else (none)) = some r := H
  have A1 := Aside0.mk A10
  clear A10
  have HC2 := Aside0.mk H
  clear H
  go_enter Tryd.func13, Tryd.ntmps13
  go_upto_region 3 with (first | ((with_reducible refine gate_dst (N := 1) rfl ?_); (try (refine gate_guard (by rfl) ?_; dsimp only)); refine bx 1 #[.int .i64 0, .int .u64 0, .string (⟨#[]⟩ : ByteArray), .int .i64 0, .int .u64 0, .int .u64 0, .int .u64 0, .int .u64 0, .int .u64 0, .int .u64 0, .int .u64 0] 32 ?_; intro gb299 hg w3 hbox hb; have n0_ := bs HB hb; have n1_ := Aside0.mk (hbox); have n2_ := sz HB hg; have n3_ := sz HB hg; clear HB; have HB := n0_; have BK299 := n1_; have GW299 := n2_; have GE299 := n3_; clear n0_ n1_ n2_ n3_; clear hb hbox hg; obtain ⟨hcz4_0, hcz4_1, hcz4_2, hcz4_3, hcz4_4, hcz4_5, hcz4_6, hcz4_7, hcz4_8, hcz4_9, hcz4_10, hfz4_0, hfz4_1, hfz4_2, hfz4_3, hfz4_4, hfz4_5, hfz4_6, hfz4_7, hfz4_8, hfz4_9, hfz4_10⟩ := bc11 BK299) | ((with_reducible refine gate_callee (f := 16) rfl ?_); refine gl (some 8) Tryd.func16 #[.agg #[.int .i64 2, .int .u64 5, .string (⟨#[107]⟩ : ByteArray), .int .i64 0, .int .u64 0, .int .u64 0, .int .u64 0, .int .u64 0, .int .u64 0, .int .u64 0, .int .u64 0]] ?_; (with_reducible refine (record_Encode.calls k 2 5 (⟨#[107]⟩ : ByteArray) 0 0 0 0 0 0 0 0 t300 t303 _ ?side1 A1.out).mono ?_); (case side1 => exact (HERR.out.below (bw HB))); rintro e w5 ⟨v301, rfl, ho0, hb⟩; refine ⟨_, rfl, ?_⟩; have n0_ := Aside0.mk (Kd.R_lower ho0 (below_size (bw HB))); have n1_ := Aside0.mk (blk_below (g := gb299) (o := .cells #[.int .i64 2, .int .u64 5, .string (⟨#[107]⟩ : ByteArray), .int .i64 0, .int .u64 0, .int .u64 0, .int .u64 0, .int .u64 0, .int .u64 0, .int .u64 0, .int .u64 0] 32 (0, 0)) (by (with_reducible repeat (first | refine blk_drewN ?_ _ | refine blk_drew ?_ | refine blk_alloc ?_ _)); refine blk_put (cs := #[.int .i64 2, .int .u64 5, .string (⟨#[107]⟩ : ByteArray), .int .i64 0, .int .u64 0, .int .u64 0, .int .u64 0, .int .u64 0, .int .u64 0, .int .u64 0, .int .u64 0]) ?_ 10 _ rfl; (with_reducible repeat (first | refine blk_drewN ?_ _ | refine blk_drew ?_ | refine blk_alloc ?_ _)); refine blk_put (cs := #[.int .i64 2, .int .u64 5, .string (⟨#[107]⟩ : ByteArray), .int .i64 0, .int .u64 0, .int .u64 0, .int .u64 0, .int .u64 0, .int .u64 0, .int .u64 0, .int .u64 0]) ?_ 9 _ rfl; (with_reducible repeat (first | refine blk_drewN ?_ _ | refine blk_drew ?_ | refine blk_alloc ?_ _)); refine blk_put (cs := #[.int .i64 2, .int .u64 5, .string (⟨#[107]⟩ : ByteArray), .int .i64 0, .int .u64 0, .int .u64 0, .int .u64 0, .int .u64 0, .int .u64 0, .int .u64 0, .int .u64 0]) ?_ 8 _ rfl; (with_reducible repeat (first | refine blk_drewN ?_ _ | refine blk_drew ?_ | refine blk_alloc ?_ _)); refine blk_put (cs := #[.int .i64 2, .int .u64 5, .string (⟨#[107]⟩ : ByteArray), .int .i64 0, .int .u64 0, .int .u64 0, .int .u64 0, .int .u64 0, .int .u64 0, .int .u64 0, .int .u64 0]) ?_ 7 _ rfl; (with_reducible repeat (first | refine blk_drewN ?_ _ | refine blk_drew ?_ | refine blk_alloc ?_ _)); refine blk_put (cs := #[.int .i64 2, .int .u64 5, .string (⟨#[107]⟩ : ByteArray), .int .i64 0, .int .u64 0, .int .u64 0, .int .u64 0, .int .u64 0, .int .u64 0, .int .u64 0, .int .u64 0]) ?_ 6 _ rfl; (with_reducible repeat (first | refine blk_drewN ?_ _ | refine blk_drew ?_ | refine blk_alloc ?_ _)); refine blk_put (cs := #[.int .i64 2, .int .u64 5, .string (⟨#[107]⟩ : ByteArray), .int .i64 0, .int .u64 0, .int .u64 0, .int .u64 0, .int .u64 0, .int .u64 0, .int .u64 0, .int .u64 0]) ?_ 5 _ rfl; (with_reducible repeat (first | refine blk_drewN ?_ _ | refine blk_drew ?_ | refine blk_alloc ?_ _)); refine blk_put (cs := #[.int .i64 2, .int .u64 5, .string (⟨#[107]⟩ : ByteArray), .int .i64 0, .int .u64 0, .int .u64 0, .int .u64 0, .int .u64 0, .int .u64 0, .int .u64 0, .int .u64 0]) ?_ 4 _ rfl; (with_reducible repeat (first | refine blk_drewN ?_ _ | refine blk_drew ?_ | refine blk_alloc ?_ _)); refine blk_put (cs := #[.int .i64 2, .int .u64 5, .string (⟨#[107]⟩ : ByteArray), .int .i64 0, .int .u64 0, .int .u64 0, .int .u64 0, .int .u64 0, .int .u64 0, .int .u64 0, .int .u64 0]) ?_ 3 _ rfl; (with_reducible repeat (first | refine blk_drewN ?_ _ | refine blk_drew ?_ | refine blk_alloc ?_ _)); refine blk_put (cs := #[.int .i64 2, .int .u64 5, .string (⟨#[]⟩ : ByteArray), .int .i64 0, .int .u64 0, .int .u64 0, .int .u64 0, .int .u64 0, .int .u64 0, .int .u64 0, .int .u64 0]) ?_ 2 _ rfl; (with_reducible repeat (first | refine blk_drewN ?_ _ | refine blk_drew ?_ | refine blk_alloc ?_ _)); refine blk_put (cs := #[.int .i64 2, .int .u64 0, .string (⟨#[]⟩ : ByteArray), .int .i64 0, .int .u64 0, .int .u64 0, .int .u64 0, .int .u64 0, .int .u64 0, .int .u64 0, .int .u64 0]) ?_ 1 _ rfl; (with_reducible repeat (first | refine blk_drewN ?_ _ | refine blk_drew ?_ | refine blk_alloc ?_ _)); refine blk_put (cs := #[.int .i64 0, .int .u64 0, .string (⟨#[]⟩ : ByteArray), .int .i64 0, .int .u64 0, .int .u64 0, .int .u64 0, .int .u64 0, .int .u64 0, .int .u64 0, .int .u64 0]) ?_ 0 _ rfl; (with_reducible repeat (first | refine blk_drewN ?_ _ | refine blk_drew ?_ | refine blk_alloc ?_ _)); exact BK299.out) hb); have n2_ := bs HB hb; clear BK299; clear HB; have HO302 := n0_; have BK299 := n1_; have HB := n2_; clear n0_ n1_ n2_; (try clear hb); (try clear hb2); (try clear hk); (try clear hi); (try clear ho0)))
  (try simp only [Act.put, List.setIfInBounds_toArray, List.set_cons_zero, List.set_cons_succ])
  go_cut [18] (fun v18 wc => ∃ (kq : Nat) (x18_1 : Bool), v18 = .bool x18_1 ∧ Aside0 (turnstilelaw11_awake.j0 kq t300 x18_1 2 5 (⟨#[107]⟩ : ByteArray) 0 0 0 0 0 0 0 0 = some r) ∧ Aside0 (kq ≤ k) ∧ Aside0 (Kd.R (Kd.int .u8) 5 wc w.heap.size (fun _ => True) v301 t300) ∧ Aside0 (wc.heap[gb299]? = some (.cells #[.int .i64 2, .int .u64 5, .string (⟨#[107]⟩ : ByteArray), .int .i64 0, .int .u64 0, .int .u64 0, .int .u64 0, .int .u64 0, .int .u64 0, .int .u64 0, .int .u64 0] 32 (0, 0))) ∧ Aside0 (Below w.heap.size w wc))
  case first =>
    have H := HC2.out
    clear HC2
    by_cases c6 : 0 ≤ t303
    · rw [if_pos c6] at H
      have c6b0 := eq_true c6
      have c6b1 : decide (0 ≤ t303) = true := decide_eq_true c6
      clear c6
      by_cases c7 : t303 = 0
      · rw [if_pos c7] at H
        have c7b0 : (t303 == 0) = true := beq_iff_eq.mpr c7
        have c7b1 : (t303 != 0) = false := bne_eq_false_iff_eq.mpr c7
        clear c7
        (first | rw [c7b0] | (simp only [i64_w, i32_w]; rw [c7b0]) | skip)
        obtain ⟨y304, hy304⟩ : ∃ y_ : List Int, y_ = (([2, 5, 0, 0, 0, 0, 0, 0, 0, 1, 0, 107] : List Int)) := ⟨_, rfl⟩
        replace H : ((turnstilelaw11_same.f k t300 y304).bind fun t307 => (turnstilelaw11_awake.j0 k t300 (!t307) 2 5 (⟨#[107]⟩ : ByteArray) 0 0 0 0 0 0 0 0)) = some r := by first | (rw [hy304]; with_reducible exact H) | (have H2_ := (Option.bind_some _ _).symm.trans H; rw [hy304]; with_reducible exact H2_) | (have H2_ := (Option.bind_some _ _).symm.trans H; with_reducible exact H2_) | with_reducible exact H | (rw [hy304]; exact H) | exact H
        have Ny304 := Aside0.mk hy304
        clear hy304
        replace H := Option.bind_eq_some_iff.mp H
        obtain ⟨t307, A80, H⟩ := H
        replace H : (turnstilelaw11_awake.j0 k t300 (!t307) 2 5 (⟨#[107]⟩ : ByteArray) 0 0 0 0 0 0 0 0) = some r := H
        have A8 := Aside0.mk A80
        clear A80
        have H' := Aside0.mk H
        clear H
        go_wp2_with (first | ((with_reducible refine gate_dst (N := 12) rfl ?_); (try (refine gate_guard (by rfl) ?_; dsimp only)); refine nen_err t303 (b := (t303 != 0)) ?_ rfl (of_decide_eq_true (by first | (with_reducible assumption) | assumption))) | ((with_reducible refine gate_dst (N := 15) rfl ?_); (try (refine gate_guard (by rfl) ?_; dsimp only)); refine Kd.R_lit (Kd.int .u8) _ 5 ?hg (N := 15) ?hd (xs := ([2, 5, 0, 0, 0, 0, 0, 0, 0, 1, 0, 107] : List Int)) (inner := [.int .u8 2, .int .u8 5, .int .u8 0, .int .u8 0, .int .u8 0, .int .u8 0, .int .u8 0, .int .u8 0, .int .u8 0, .int .u8 1, .int .u8 0, .int .u8 107]) (ok := fun _ => True) (okp := fun _ => True) ?hr ?hp (fun _ hk => hk) trivial (Below.refl _ _) (Nat.le_refl _) (by simp) ?_; (case hd => rfl); (case hg => rfl); (case hr => first | (go_simp; done) | (go_simp; rfl)); (case hp => exact (Reps.one (show Kd.M (Kd.int .u8) _ _ _ 2 [.int .u8 2] from rfl) (Reps.one (show Kd.M (Kd.int .u8) _ _ _ 5 [.int .u8 5] from rfl) (Reps.one (show Kd.M (Kd.int .u8) _ _ _ 0 [.int .u8 0] from rfl) (Reps.one (show Kd.M (Kd.int .u8) _ _ _ 0 [.int .u8 0] from rfl) (Reps.one (show Kd.M (Kd.int .u8) _ _ _ 0 [.int .u8 0] from rfl) (Reps.one (show Kd.M (Kd.int .u8) _ _ _ 0 [.int .u8 0] from rfl) (Reps.one (show Kd.M (Kd.int .u8) _ _ _ 0 [.int .u8 0] from rfl) (Reps.one (show Kd.M (Kd.int .u8) _ _ _ 0 [.int .u8 0] from rfl) (Reps.one (show Kd.M (Kd.int .u8) _ _ _ 0 [.int .u8 0] from rfl) (Reps.one (show Kd.M (Kd.int .u8) _ _ _ 1 [.int .u8 1] from rfl) (Reps.one (show Kd.M (Kd.int .u8) _ _ _ 0 [.int .u8 0] from rfl) (Reps.one (show Kd.M (Kd.int .u8) _ _ _ 107 [.int .u8 107] from rfl) (Reps.none _ _)))))))))))))); intro v305 w9 ho10 hb hg_ hnew_; clear hg_ hnew_; (first | rw [← Ny304.out] at ho10 | (simp only [Int.reduceToNat] at ho10; rw [← Ny304.out] at ho10)); have n0_ := Aside0.mk (Kd.R_elder' (by (with_reducible repeat (first | apply Kd.R_alloc | apply Kd.R_drewN | apply Kd.R_drew)); exact HO302.out) (Kd.R_base ho10) hb); have n1_ := Aside0.mk (Kd.R_lower (Kd.R_new' ho10 (Kd.R_lt (by (with_reducible repeat (first | apply Kd.R_alloc | apply Kd.R_drewN | apply Kd.R_drew)); exact HO302.out))) (below_size (bw HB))); have n2_ := bb BK299 hb; have n3_ := bs HB hb; clear HO302; clear BK299; clear HB; have HO302 := n0_; have HO306 := n1_; have BK299 := n2_; have HB := n3_; clear n0_ n1_ n2_ n3_; clear hb ho10; obtain ⟨Ao11, co11, eo11⟩ := Kd.R_slice HO302.out; subst eo11; obtain ⟨Ao12, co12, eo12⟩ := Kd.R_slice HO306.out; subst eo12) | (go_at_call 19; (with_reducible refine (turnstilelaw11_same.calls k _ _ t300 _ _ y304 t307 _ ?side1 ?side2 ?side3 ?side4 A8.out).mono ?_); (case side1 => repeat (first | exact (Kd.R_reads' HO302.out).2.2 | (with_reducible refine Kd.C_alloc ?_ _) | (with_reducible refine Kd.C_drewN ?_ _) | (with_reducible refine Kd.C_drew ?_))); (case side2 => exact (Kd.R_reads' HO302.out).2.1); (case side3 => repeat (first | exact (Kd.R_reads' HO306.out).2.2 | (with_reducible refine Kd.C_alloc ?_ _) | (with_reducible refine Kd.C_drewN ?_ _) | (with_reducible refine Kd.C_drew ?_))); (case side4 => exact (Kd.R_reads' HO306.out).2.1); rintro e w' ⟨rfl, ⟨nd, rfl⟩⟩))
        go_meet
        case rel => exact ⟨_, (!t307), rs, H', ⟨by first | omega | exact Nat.le_refl _⟩, ⟨by (with_reducible repeat (first | apply Kd.R_alloc | apply Kd.R_drewN | apply Kd.R_drew)); exact Kd.R_mono HO302.out (fun _ hk => trivial)⟩, ⟨bk BK299⟩, ⟨bw HB⟩⟩
      · rw [if_neg c7] at H
        have c7b0 : (t303 == 0) = false := beq_eq_false_iff_ne.mpr c7
        have c7b1 : (t303 != 0) = true := bne_iff_ne.mpr c7
        (first | rw [c7b0] | (simp only [i64_w, i32_w]; rw [c7b0]) | skip)
        have H' := Aside0.mk H
        clear H
        go_wp2_with (first | ((with_reducible refine gate_dst (N := 12) rfl ?_); (try (refine gate_guard (by rfl) ?_; dsimp only)); refine nen_err t303 (b := (t303 != 0)) ?_ rfl (of_decide_eq_true (by first | (with_reducible assumption) | assumption))))
        go_meet
        case rel => exact ⟨_, (true), rs, H', ⟨by first | omega | exact Nat.le_refl _⟩, ⟨by (with_reducible repeat (first | apply Kd.R_alloc | apply Kd.R_drewN | apply Kd.R_drew)); exact HO302.out⟩, ⟨bk BK299⟩, ⟨bw HB⟩⟩
    · rw [if_neg c6] at H
      exact absurd H (by simp)
  case rest =>
    clear HC2
    try clear c1
    try clear p2
    try clear c6
    try clear c6b0
    try clear c6b1
    try clear c7
    try clear c7b0
    try clear c7b1
    try clear hcz4_0
    try clear hcz4_1
    try clear hcz4_10
    try clear hcz4_2
    try clear hcz4_3
    try clear hcz4_4
    try clear hcz4_5
    try clear hcz4_6
    try clear hcz4_7
    try clear hcz4_8
    try clear hcz4_9
    try clear hfz4_0
    try clear hfz4_1
    try clear hfz4_10
    try clear hfz4_2
    try clear hfz4_3
    try clear hfz4_4
    try clear hfz4_5
    try clear hfz4_6
    try clear hfz4_7
    try clear hfz4_8
    try clear hfz4_9
    obtain ⟨kq, x18_1, rfl, HA, HJ1, HO_2, BK299, HB⟩ := hcut
    cases kq with
    | zero => exact absurd HA.out (by simp [turnstilelaw11_awake.j0])
    | succ kj1 =>
      have H := HA.out
      clear HA
      simp only [turnstilelaw11_awake.j0] at H
      by_cases c13 : x18_1 = true
      · subst c13
        have H1 : (some false) = some r := by rw [if_pos rfl] at H; exact H
        clear H
        have H := H1
        clear H1
        obtain rfl := Option.some.inj H
        go_wp2
        go_ret
        exact ⟨re, bw HB⟩
      · replace c13 := Bool.eq_false_iff.mpr c13
        subst c13
        have H1 : ((record_Decode.f kj1 t300).bind fun bt308 => (if 0 ≤ bt308.2.2.2.2.2.2.2.2.2.2.2 then (if bt308.2.2.2.2.2.2.2.2.2.2.2 = 0 then (if (bt308.1 == 2 && (bt308.2.1 == 5 && (bt308.2.2.1.toList == (⟨#[107]⟩ : ByteArray).toList && ((bt308.2.2.2.1 == 0 && (bt308.2.2.2.2.1 == 0 && (bt308.2.2.2.2.2.1 == 0 && (bt308.2.2.2.2.2.2.1 == 0 && (bt308.2.2.2.2.2.2.2.1 == 0))))) && ((bt308.2.2.2.2.2.2.2.2.1 == 0 && (bt308.2.2.2.2.2.2.2.2.2.1 == 0 && (bt308.2.2.2.2.2.2.2.2.2.2.1 == 0)))))))) = true then ((record_Valid.f kj1 bt308.1 bt308.2.1 bt308.2.2.1 bt308.2.2.2.1 bt308.2.2.2.2.1 bt308.2.2.2.2.2.1 bt308.2.2.2.2.2.2.1 bt308.2.2.2.2.2.2.2.1 bt308.2.2.2.2.2.2.2.2.1 bt308.2.2.2.2.2.2.2.2.2.1 bt308.2.2.2.2.2.2.2.2.2.2.1).bind fun t321 => (some t321)) else (some false)) else (some false)) else (none))) = some r := by rw [if_neg (show ¬ (false = true) by decide)] at H; exact H
        clear H
        have H := H1
        clear H1
        replace H := Option.bind_eq_some_iff.mp H
        obtain ⟨⟨t308, t309, t310, t311, t312, t313, t314, t315, t316, t317, t318, t319⟩, A140, H⟩ := H
        replace H : (if 0 ≤ t319 then (if t319 = 0 then (if (t308 == 2 && (t309 == 5 && (t310.toList == (⟨#[107]⟩ : ByteArray).toList && ((t311 == 0 && (t312 == 0 && (t313 == 0 && (t314 == 0 && (t315 == 0))))) && ((t316 == 0 && (t317 == 0 && (t318 == 0)))))))) = true then ((record_Valid.f kj1 t308 t309 t310 t311 t312 t313 t314 t315 t316 t317 t318).bind fun t321 => (some t321)) else (some false)) else (some false)) else (none)) = some r := H
        have A14 := Aside0.mk A140
        clear A140
        by_cases c15 : 0 ≤ t319
        · rw [if_pos c15] at H
          have c15b0 := eq_true c15
          have c15b1 : decide (0 ≤ t319) = true := decide_eq_true c15
          clear c15
          by_cases c16 : t319 = 0
          · rw [if_pos c16] at H
            have c16b0 : (t319 == 0) = true := beq_iff_eq.mpr c16
            have c16b1 : (t319 != 0) = false := bne_eq_false_iff_eq.mpr c16
            clear c16
            by_cases c17 : (t308 == 2 && (t309 == 5 && (t310.toList == (⟨#[107]⟩ : ByteArray).toList && ((t311 == 0 && (t312 == 0 && (t313 == 0 && (t314 == 0 && (t315 == 0))))) && ((t316 == 0 && (t317 == 0 && (t318 == 0)))))))) = true
            · rw [if_pos c17] at H
              have c17b0 : Aside0 ((t308 == 2 && (t309 == 5 && (t310.toList == (⟨#[107]⟩ : ByteArray).toList && ((t311 == 0 && (t312 == 0 && (t313 == 0 && (t314 == 0 && (t315 == 0))))) && ((t316 == 0 && (t317 == 0 && (t318 == 0)))))))) = true) := ⟨c17⟩
              clear c17
              replace H := Option.bind_eq_some_iff.mp H
              obtain ⟨t321, A180, H⟩ := H
              replace H : (some t321) = some r := H
              have A18 := Aside0.mk A180
              clear A180
              obtain rfl := Option.some.inj H
              obtain ⟨Ao19, co19, eo19⟩ := Kd.R_slice HO_2.out
              subst eo19
              go_wp2_with (first | ((with_reducible refine gate_callee (f := 18) rfl ?_); refine gl (some 21) Tryd.func18 #[.slice Ao19 t300.length co19] ?_; (with_reducible refine (record_Decode.calls kj1 _ _ t300 t308 t309 t310 t311 t312 t313 t314 t315 t316 t317 t318 t319 _ ?side3 ?side1 ?side2 A14.out).mono ?_); (case side1 => repeat (first | exact (Kd.R_reads' HO_2.out).2.2 | (with_reducible refine Kd.C_alloc ?_ _) | (with_reducible refine Kd.C_drewN ?_ _) | (with_reducible refine Kd.C_drew ?_))); (case side2 => exact (Kd.R_reads' HO_2.out).2.1); (case side3 => exact (HERR.out.below (bw HB))); rintro e w20 ⟨rfl, hb⟩; refine ⟨_, rfl, ?_⟩; have n0_ := Aside0.mk (Kd.R_below (by (with_reducible repeat (first | apply Kd.R_alloc | apply Kd.R_drewN | apply Kd.R_drew)); exact HO_2.out) hb); have n1_ := bb BK299 hb; have n2_ := bs HB hb; clear HO_2; clear BK299; clear HB; have HO_2 := n0_; have BK299 := n1_; have HB := n2_; clear n0_ n1_ n2_; (try clear hb); (try clear hb2); (try clear hk); (try clear hi)) | ((with_reducible refine gate_dst (N := 4) rfl ?_); (try (refine gate_guard (by rfl) ?_; dsimp only)); refine bx 4 #[.int .i64 0, .int .u64 0, .string (⟨#[]⟩ : ByteArray), .int .i64 0, .int .u64 0, .int .u64 0, .int .u64 0, .int .u64 0, .int .u64 0, .int .u64 0, .int .u64 0] 32 ?_; intro gb320 hg w21 hbox hb; have n0_ := Aside0.mk (Kd.R_below (by (with_reducible repeat (first | apply Kd.R_alloc | apply Kd.R_drewN | apply Kd.R_drew)); exact HO_2.out) hb); have n1_ := bb BK299 hb; have n2_ := bs HB hb; have n3_ := Aside0.mk (hbox); have n4_ := sz HB hg; have n5_ := sz HB hg; have n6_ := nl BK299 hg; have n7_ := nr BK299 hg; clear HO_2; clear BK299; clear HB; have HO_2 := n0_; have BK299 := n1_; have HB := n2_; have BK320 := n3_; have GW320 := n4_; have GE320 := n5_; have NB299_320 := n6_; have NB320_299 := n7_; clear n0_ n1_ n2_ n3_ n4_ n5_ n6_ n7_; clear hb hbox hg; have hnb22 := NB320_299.out; have hnc22 := NB299_320.out; obtain ⟨hcz23_0, hcz23_1, hcz23_2, hcz23_3, hcz23_4, hcz23_5, hcz23_6, hcz23_7, hcz23_8, hcz23_9, hcz23_10, hfz23_0, hfz23_1, hfz23_2, hfz23_3, hfz23_4, hfz23_5, hfz23_6, hfz23_7, hfz23_8, hfz23_9, hfz23_10⟩ := bc11 BK320; obtain ⟨hcz24_0, hcz24_1, hcz24_2, hcz24_3, hcz24_4, hcz24_5, hcz24_6, hcz24_7, hcz24_8, hcz24_9, hcz24_10, hfz24_0, hfz24_1, hfz24_2, hfz24_3, hfz24_4, hfz24_5, hfz24_6, hfz24_7, hfz24_8, hfz24_9, hfz24_10⟩ := bc11 BK299) | ((with_reducible refine gate_dst (N := 25) rfl ?_); (try (refine gate_guard (by rfl) ?_; dsimp only)); refine eqn_err t319 (b := (t319 == 0)) ?_ rfl (of_decide_eq_true (by first | (with_reducible assumption) | assumption))) | ((with_reducible refine gate_dst (N := 29) rfl ?_); (try (refine gate_guard (by rfl) ?_; dsimp only)); refine seq_step true (by go_simp; first | done | (simpa using c17b0.out)) ?_) | (go_at_call 17; (with_reducible refine (record_Valid.calls kj1 t308 t309 t310 t311 t312 t313 t314 t315 t316 t317 t318 t321 _ A18.out).mono ?_); rintro e w25 ⟨rfl, hb⟩; have n0_ := Aside0.mk (Kd.R_below (by (with_reducible repeat (first | apply Kd.R_alloc | apply Kd.R_drewN | apply Kd.R_drew)); exact (Kd.R_mono (Kd.R_far (p := ⟨gb320, 10, none⟩) (Kd.R_far (p := ⟨gb320, 9, none⟩) (Kd.R_far (p := ⟨gb320, 8, none⟩) (Kd.R_far (p := ⟨gb320, 7, none⟩) (Kd.R_far (p := ⟨gb320, 6, none⟩) (Kd.R_far (p := ⟨gb320, 5, none⟩) (Kd.R_far (p := ⟨gb320, 4, none⟩) (Kd.R_far (p := ⟨gb320, 3, none⟩) (Kd.R_far (p := ⟨gb320, 2, none⟩) (Kd.R_far (p := ⟨gb320, 1, none⟩) (Kd.R_far (p := ⟨gb320, 0, none⟩) (Kd.R_types HO_2.out BK320.out (by decide)) (fun _ hk => hk.2) (.int .i64 t308)) (fun _ hk => hk.2) (.int .u64 t309)) (fun _ hk => hk.2) (.string t310)) (fun _ hk => hk.2) (.int .i64 t311)) (fun _ hk => hk.2) (.int .u64 t312)) (fun _ hk => hk.2) (.int .u64 t313)) (fun _ hk => hk.2) (.int .u64 t314)) (fun _ hk => hk.2) (.int .u64 t315)) (fun _ hk => hk.2) (.int .u64 t316)) (fun _ hk => hk.2) (.int .u64 t317)) (fun _ hk => hk.2) (.int .u64 t318)) (fun _ h_ => h_.1))) hb); have n1_ := bb BK299 hb; have n2_ := Aside0.mk (blk_below (g := gb320) (o := .cells #[.int .i64 t308, .int .u64 t309, .string t310, .int .i64 t311, .int .u64 t312, .int .u64 t313, .int .u64 t314, .int .u64 t315, .int .u64 t316, .int .u64 t317, .int .u64 t318] 32 (0, 0)) (by (with_reducible repeat (first | refine blk_drewN ?_ _ | refine blk_drew ?_ | refine blk_alloc ?_ _)); refine blk_put (cs := #[.int .i64 t308, .int .u64 t309, .string t310, .int .i64 t311, .int .u64 t312, .int .u64 t313, .int .u64 t314, .int .u64 t315, .int .u64 t316, .int .u64 t317, .int .u64 0]) ?_ 10 _ rfl; (with_reducible repeat (first | refine blk_drewN ?_ _ | refine blk_drew ?_ | refine blk_alloc ?_ _)); refine blk_put (cs := #[.int .i64 t308, .int .u64 t309, .string t310, .int .i64 t311, .int .u64 t312, .int .u64 t313, .int .u64 t314, .int .u64 t315, .int .u64 t316, .int .u64 0, .int .u64 0]) ?_ 9 _ rfl; (with_reducible repeat (first | refine blk_drewN ?_ _ | refine blk_drew ?_ | refine blk_alloc ?_ _)); refine blk_put (cs := #[.int .i64 t308, .int .u64 t309, .string t310, .int .i64 t311, .int .u64 t312, .int .u64 t313, .int .u64 t314, .int .u64 t315, .int .u64 0, .int .u64 0, .int .u64 0]) ?_ 8 _ rfl; (with_reducible repeat (first | refine blk_drewN ?_ _ | refine blk_drew ?_ | refine blk_alloc ?_ _)); refine blk_put (cs := #[.int .i64 t308, .int .u64 t309, .string t310, .int .i64 t311, .int .u64 t312, .int .u64 t313, .int .u64 t314, .int .u64 0, .int .u64 0, .int .u64 0, .int .u64 0]) ?_ 7 _ rfl; (with_reducible repeat (first | refine blk_drewN ?_ _ | refine blk_drew ?_ | refine blk_alloc ?_ _)); refine blk_put (cs := #[.int .i64 t308, .int .u64 t309, .string t310, .int .i64 t311, .int .u64 t312, .int .u64 t313, .int .u64 0, .int .u64 0, .int .u64 0, .int .u64 0, .int .u64 0]) ?_ 6 _ rfl; (with_reducible repeat (first | refine blk_drewN ?_ _ | refine blk_drew ?_ | refine blk_alloc ?_ _)); refine blk_put (cs := #[.int .i64 t308, .int .u64 t309, .string t310, .int .i64 t311, .int .u64 t312, .int .u64 0, .int .u64 0, .int .u64 0, .int .u64 0, .int .u64 0, .int .u64 0]) ?_ 5 _ rfl; (with_reducible repeat (first | refine blk_drewN ?_ _ | refine blk_drew ?_ | refine blk_alloc ?_ _)); refine blk_put (cs := #[.int .i64 t308, .int .u64 t309, .string t310, .int .i64 t311, .int .u64 0, .int .u64 0, .int .u64 0, .int .u64 0, .int .u64 0, .int .u64 0, .int .u64 0]) ?_ 4 _ rfl; (with_reducible repeat (first | refine blk_drewN ?_ _ | refine blk_drew ?_ | refine blk_alloc ?_ _)); refine blk_put (cs := #[.int .i64 t308, .int .u64 t309, .string t310, .int .i64 0, .int .u64 0, .int .u64 0, .int .u64 0, .int .u64 0, .int .u64 0, .int .u64 0, .int .u64 0]) ?_ 3 _ rfl; (with_reducible repeat (first | refine blk_drewN ?_ _ | refine blk_drew ?_ | refine blk_alloc ?_ _)); refine blk_put (cs := #[.int .i64 t308, .int .u64 t309, .string (⟨#[]⟩ : ByteArray), .int .i64 0, .int .u64 0, .int .u64 0, .int .u64 0, .int .u64 0, .int .u64 0, .int .u64 0, .int .u64 0]) ?_ 2 _ rfl; (with_reducible repeat (first | refine blk_drewN ?_ _ | refine blk_drew ?_ | refine blk_alloc ?_ _)); refine blk_put (cs := #[.int .i64 t308, .int .u64 0, .string (⟨#[]⟩ : ByteArray), .int .i64 0, .int .u64 0, .int .u64 0, .int .u64 0, .int .u64 0, .int .u64 0, .int .u64 0, .int .u64 0]) ?_ 1 _ rfl; (with_reducible repeat (first | refine blk_drewN ?_ _ | refine blk_drew ?_ | refine blk_alloc ?_ _)); refine blk_put (cs := #[.int .i64 0, .int .u64 0, .string (⟨#[]⟩ : ByteArray), .int .i64 0, .int .u64 0, .int .u64 0, .int .u64 0, .int .u64 0, .int .u64 0, .int .u64 0, .int .u64 0]) ?_ 0 _ rfl; (with_reducible repeat (first | refine blk_drewN ?_ _ | refine blk_drew ?_ | refine blk_alloc ?_ _)); exact BK320.out) hb); have n3_ := bs HB hb; clear HO_2; clear BK299; clear BK320; clear HB; have HO_2 := n0_; have BK299 := n1_; have BK320 := n2_; have HB := n3_; clear n0_ n1_ n2_ n3_; (try clear hb); (try clear hb2); (try clear hk); (try clear hi)))
              go_ret
              exact ⟨re, bw HB⟩
            · rw [if_neg c17] at H
              have c17b0 : Aside0 ((t308 == 2 && (t309 == 5 && (t310.toList == (⟨#[107]⟩ : ByteArray).toList && ((t311 == 0 && (t312 == 0 && (t313 == 0 && (t314 == 0 && (t315 == 0))))) && ((t316 == 0 && (t317 == 0 && (t318 == 0)))))))) = false) := ⟨Bool.eq_false_iff.mpr c17⟩
              clear c17
              obtain rfl := Option.some.inj H
              obtain ⟨Ao26, co26, eo26⟩ := Kd.R_slice HO_2.out
              subst eo26
              go_wp2_with (first | ((with_reducible refine gate_callee (f := 18) rfl ?_); refine gl (some 21) Tryd.func18 #[.slice Ao26 t300.length co26] ?_; (with_reducible refine (record_Decode.calls kj1 _ _ t300 t308 t309 t310 t311 t312 t313 t314 t315 t316 t317 t318 t319 _ ?side3 ?side1 ?side2 A14.out).mono ?_); (case side1 => repeat (first | exact (Kd.R_reads' HO_2.out).2.2 | (with_reducible refine Kd.C_alloc ?_ _) | (with_reducible refine Kd.C_drewN ?_ _) | (with_reducible refine Kd.C_drew ?_))); (case side2 => exact (Kd.R_reads' HO_2.out).2.1); (case side3 => exact (HERR.out.below (bw HB))); rintro e w27 ⟨rfl, hb⟩; refine ⟨_, rfl, ?_⟩; have n0_ := Aside0.mk (Kd.R_below (by (with_reducible repeat (first | apply Kd.R_alloc | apply Kd.R_drewN | apply Kd.R_drew)); exact HO_2.out) hb); have n1_ := bb BK299 hb; have n2_ := bs HB hb; clear HO_2; clear BK299; clear HB; have HO_2 := n0_; have BK299 := n1_; have HB := n2_; clear n0_ n1_ n2_; (try clear hb); (try clear hb2); (try clear hk); (try clear hi)) | ((with_reducible refine gate_dst (N := 4) rfl ?_); (try (refine gate_guard (by rfl) ?_; dsimp only)); refine bx 4 #[.int .i64 0, .int .u64 0, .string (⟨#[]⟩ : ByteArray), .int .i64 0, .int .u64 0, .int .u64 0, .int .u64 0, .int .u64 0, .int .u64 0, .int .u64 0, .int .u64 0] 32 ?_; intro gb320 hg w28 hbox hb; have n0_ := Aside0.mk (Kd.R_below (by (with_reducible repeat (first | apply Kd.R_alloc | apply Kd.R_drewN | apply Kd.R_drew)); exact HO_2.out) hb); have n1_ := bb BK299 hb; have n2_ := bs HB hb; have n3_ := Aside0.mk (hbox); have n4_ := sz HB hg; have n5_ := sz HB hg; have n6_ := nl BK299 hg; have n7_ := nr BK299 hg; clear HO_2; clear BK299; clear HB; have HO_2 := n0_; have BK299 := n1_; have HB := n2_; have BK320 := n3_; have GW320 := n4_; have GE320 := n5_; have NB299_320 := n6_; have NB320_299 := n7_; clear n0_ n1_ n2_ n3_ n4_ n5_ n6_ n7_; clear hb hbox hg; have hnb29 := NB320_299.out; have hnc29 := NB299_320.out; obtain ⟨hcz30_0, hcz30_1, hcz30_2, hcz30_3, hcz30_4, hcz30_5, hcz30_6, hcz30_7, hcz30_8, hcz30_9, hcz30_10, hfz30_0, hfz30_1, hfz30_2, hfz30_3, hfz30_4, hfz30_5, hfz30_6, hfz30_7, hfz30_8, hfz30_9, hfz30_10⟩ := bc11 BK320; obtain ⟨hcz31_0, hcz31_1, hcz31_2, hcz31_3, hcz31_4, hcz31_5, hcz31_6, hcz31_7, hcz31_8, hcz31_9, hcz31_10, hfz31_0, hfz31_1, hfz31_2, hfz31_3, hfz31_4, hfz31_5, hfz31_6, hfz31_7, hfz31_8, hfz31_9, hfz31_10⟩ := bc11 BK299) | ((with_reducible refine gate_dst (N := 25) rfl ?_); (try (refine gate_guard (by rfl) ?_; dsimp only)); refine eqn_err t319 (b := (t319 == 0)) ?_ rfl (of_decide_eq_true (by first | (with_reducible assumption) | assumption))) | ((with_reducible refine gate_dst (N := 29) rfl ?_); (try (refine gate_guard (by rfl) ?_; dsimp only)); refine seq_step false (by go_simp; first | done | (simpa using c17b0.out)) ?_))
              go_ret
              exact ⟨re, bw HB⟩
          · rw [if_neg c16] at H
            have c16b0 : (t319 == 0) = false := beq_eq_false_iff_ne.mpr c16
            have c16b1 : (t319 != 0) = true := bne_iff_ne.mpr c16
            obtain rfl := Option.some.inj H
            obtain ⟨Ao32, co32, eo32⟩ := Kd.R_slice HO_2.out
            subst eo32
            go_wp2_with (first | ((with_reducible refine gate_callee (f := 18) rfl ?_); refine gl (some 21) Tryd.func18 #[.slice Ao32 t300.length co32] ?_; (with_reducible refine (record_Decode.calls kj1 _ _ t300 t308 t309 t310 t311 t312 t313 t314 t315 t316 t317 t318 t319 _ ?side3 ?side1 ?side2 A14.out).mono ?_); (case side1 => repeat (first | exact (Kd.R_reads' HO_2.out).2.2 | (with_reducible refine Kd.C_alloc ?_ _) | (with_reducible refine Kd.C_drewN ?_ _) | (with_reducible refine Kd.C_drew ?_))); (case side2 => exact (Kd.R_reads' HO_2.out).2.1); (case side3 => exact (HERR.out.below (bw HB))); rintro e w33 ⟨rfl, hb⟩; refine ⟨_, rfl, ?_⟩; have n0_ := Aside0.mk (Kd.R_below (by (with_reducible repeat (first | apply Kd.R_alloc | apply Kd.R_drewN | apply Kd.R_drew)); exact HO_2.out) hb); have n1_ := bb BK299 hb; have n2_ := bs HB hb; clear HO_2; clear BK299; clear HB; have HO_2 := n0_; have BK299 := n1_; have HB := n2_; clear n0_ n1_ n2_; (try clear hb); (try clear hb2); (try clear hk); (try clear hi)) | ((with_reducible refine gate_dst (N := 4) rfl ?_); (try (refine gate_guard (by rfl) ?_; dsimp only)); refine bx 4 #[.int .i64 0, .int .u64 0, .string (⟨#[]⟩ : ByteArray), .int .i64 0, .int .u64 0, .int .u64 0, .int .u64 0, .int .u64 0, .int .u64 0, .int .u64 0, .int .u64 0] 32 ?_; intro gb320 hg w34 hbox hb; have n0_ := Aside0.mk (Kd.R_below (by (with_reducible repeat (first | apply Kd.R_alloc | apply Kd.R_drewN | apply Kd.R_drew)); exact HO_2.out) hb); have n1_ := bb BK299 hb; have n2_ := bs HB hb; have n3_ := Aside0.mk (hbox); have n4_ := sz HB hg; have n5_ := sz HB hg; have n6_ := nl BK299 hg; have n7_ := nr BK299 hg; clear HO_2; clear BK299; clear HB; have HO_2 := n0_; have BK299 := n1_; have HB := n2_; have BK320 := n3_; have GW320 := n4_; have GE320 := n5_; have NB299_320 := n6_; have NB320_299 := n7_; clear n0_ n1_ n2_ n3_ n4_ n5_ n6_ n7_; clear hb hbox hg; have hnb35 := NB320_299.out; have hnc35 := NB299_320.out; obtain ⟨hcz36_0, hcz36_1, hcz36_2, hcz36_3, hcz36_4, hcz36_5, hcz36_6, hcz36_7, hcz36_8, hcz36_9, hcz36_10, hfz36_0, hfz36_1, hfz36_2, hfz36_3, hfz36_4, hfz36_5, hfz36_6, hfz36_7, hfz36_8, hfz36_9, hfz36_10⟩ := bc11 BK320) | ((with_reducible refine gate_dst (N := 25) rfl ?_); (try (refine gate_guard (by rfl) ?_; dsimp only)); refine eqn_err t319 (b := (t319 == 0)) ?_ rfl (of_decide_eq_true (by first | (with_reducible assumption) | assumption))))
            go_ret
            exact ⟨re, bw HB⟩
        · rw [if_neg c15] at H
          exact absurd H (by simp)

end Go.Proofs.YtkgjepmminmjjaaDoor.E
