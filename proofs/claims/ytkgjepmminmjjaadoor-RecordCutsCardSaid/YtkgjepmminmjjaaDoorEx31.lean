/- Written by the session's own program hyb.py: what functions of the program compute; Lean checks it. -/
import Derived.Test.YtkgjepmminmjjaaDoorEx0
import Derived.Test.YtkgjepmminmjjaaDoorEx3
import Derived.Test.YtkgjepmminmjjaaDoorEx17
import Derived.Test.YtkgjepmminmjjaaDoorEx20
import Derived.Test.YtkgjepmminmjjaaDoorEx21
import Derived.Test.YtkgjepmminmjjaaDoorWErr
namespace Go.Proofs.YtkgjepmminmjjaaDoor.E
open Go.RowKit Go.Proofs.YtkgjepmminmjjaaDoorW.PrintWords Go.Proofs.YtkgjepmminmjjaaDoorW.PrintLast Go.Proofs.YtkgjepmminmjjaaDoorW.PrintMore Go.Proofs.YtkgjepmminmjjaaDoorW.PrintShort
attribute [local go_sem] run_Add64 run_Sub64
attribute [local go_sem] max2_int min2_int max_two min_two max_three min_three max_four min_four   -- for this text's walks alone
set_option linter.unusedVariables false
set_option linter.unusedSimpArgs false

attribute [local go_sem high] eqA32
/-! ### turnstilelaw11_RecordCuts: function 6 -/
mutual
def turnstilelaw11_RecordCuts.j0 : Nat → Int → List Int → Bool → Bool → Int → Int → ByteArray → Int → Int → Int → Int → Int → Int → Int → Int → Option (Bool)
  | 0, _, _, _, _, _, _, _, _, _, _, _, _, _, _, _ => none
  | k + 1, x1, x2, x7, x21, x465000, x465001, x465002, x465003, x465004, x465005, x465006, x465007, x465008, x465009, x465010 => if x21 = true then (some x7) else ((record_Encode.f k x465000 x465001 x465002 x465003 x465004 x465005 x465006 x465007 x465008 x465009 x465010).bind fun bt466 => (if 0 ≤ bt466.2 then (if bt466.2 = 0 then (if x1 ≥ 0 then (turnstilelaw11_RecordCuts.j1 k x1 x2 bt466.1 (decide (x1 < (bt466.1.length : Int)))) else (turnstilelaw11_RecordCuts.j1 k x1 x2 bt466.1 false)) else (if bt466.2 ≤ 5 then (some (bt466.2 == 1)) else (none))) else (none)))
def turnstilelaw11_RecordCuts.j1 : Nat → Int → List Int → List Int → Bool → Option (Bool)
  | 0, _, _, _, _ => none
  | k + 1, x1, x2, x8, x40 => if x40 = true then ((some (([] : List Int) : List Int)).bind fun y470 => (if 0 ≤ x1 then (if x1 ≤ (x8.length : Int) then ((some (x8.take (x1 : Int).toNat : List Int)).bind fun y473 => (if y470.length + y473.length < 140737488355328 then ((record_Decode.f k (y470 ++ y473)).bind fun bt480 => (if 0 ≤ bt480.2.2.2.2.2.2.2.2.2.2.2 then (if bt480.2.2.2.2.2.2.2.2.2.2.2 ≤ 5 then (if bt480.2.2.2.2.2.2.2.2.2.2.2 = 2 then (turnstilelaw11_RecordCuts.j2 k x2 x8 (!(bt480.1 == 0) || (!(bt480.2.1 == 0) || (!(bt480.2.2.1.toList == ([] : List UInt8)) || ((!(bt480.2.2.2.1 == 0) || (!(bt480.2.2.2.2.1 == 0) || (!(bt480.2.2.2.2.2.1 == 0) || (!(bt480.2.2.2.2.2.2.1 == 0) || (!(bt480.2.2.2.2.2.2.2.1 == 0)))))) || ((!(bt480.2.2.2.2.2.2.2.2.1 == 0) || (!(bt480.2.2.2.2.2.2.2.2.2.1 == 0) || (!(bt480.2.2.2.2.2.2.2.2.2.2.1 == 0)))))))))) else (turnstilelaw11_RecordCuts.j2 k x2 x8 true)) else (none)) else (none))) else (none))) else (none)) else (none))) else (if (x2.length : Int) = 0 then (some true) else ((some (([] : List Int) : List Int)).bind fun y515 => (if y515.length + x8.length < 140737488355328 then ((some (y515 ++ x8 : List Int)).bind fun y518 => (if y518.length + x2.length < 140737488355328 then ((record_Decode.f k (y518 ++ x2)).bind fun bt524 => (if 0 ≤ bt524.2.2.2.2.2.2.2.2.2.2.2 then (if bt524.2.2.2.2.2.2.2.2.2.2.2 ≤ 5 then (if bt524.2.2.2.2.2.2.2.2.2.2.2 = 3 then (some (bt524.1 == 0 && (bt524.2.1 == 0 && (bt524.2.2.1.toList == ([] : List UInt8) && ((bt524.2.2.2.1 == 0 && (bt524.2.2.2.2.1 == 0 && (bt524.2.2.2.2.2.1 == 0 && (bt524.2.2.2.2.2.2.1 == 0 && (bt524.2.2.2.2.2.2.2.1 == 0))))) && ((bt524.2.2.2.2.2.2.2.2.1 == 0 && (bt524.2.2.2.2.2.2.2.2.2.1 == 0 && (bt524.2.2.2.2.2.2.2.2.2.2.1 == 0))))))))) else (some false)) else (none)) else (none))) else (none))) else (none))))
def turnstilelaw11_RecordCuts.j2 : Nat → List Int → List Int → Bool → Option (Bool)
  | 0, _, _, _ => none
  | k + 1, x2, x8, x57 => if x57 = true then (some false) else (if (x2.length : Int) = 0 then (some true) else ((some (([] : List Int) : List Int)).bind fun y493 => (if y493.length + x8.length < 140737488355328 then ((some (y493 ++ x8 : List Int)).bind fun y496 => (if y496.length + x2.length < 140737488355328 then ((record_Decode.f k (y496 ++ x2)).bind fun bt502 => (if 0 ≤ bt502.2.2.2.2.2.2.2.2.2.2.2 then (if bt502.2.2.2.2.2.2.2.2.2.2.2 ≤ 5 then (if bt502.2.2.2.2.2.2.2.2.2.2.2 = 3 then (some (bt502.1 == 0 && (bt502.2.1 == 0 && (bt502.2.2.1.toList == ([] : List UInt8) && ((bt502.2.2.2.1 == 0 && (bt502.2.2.2.2.1 == 0 && (bt502.2.2.2.2.2.1 == 0 && (bt502.2.2.2.2.2.2.1 == 0 && (bt502.2.2.2.2.2.2.2.1 == 0))))) && ((bt502.2.2.2.2.2.2.2.2.1 == 0 && (bt502.2.2.2.2.2.2.2.2.2.1 == 0 && (bt502.2.2.2.2.2.2.2.2.2.2.1 == 0))))))))) else (some false)) else (none)) else (none))) else (none))) else (none))))
end
def turnstilelaw11_RecordCuts.f (k : Nat) (a0_0 : Int) (a0_1 : Int) (a0_2 : ByteArray) (a0_3 : Int) (a0_4 : Int) (a0_5 : Int) (a0_6 : Int) (a0_7 : Int) (a0_8 : Int) (a0_9 : Int) (a0_10 : Int) (a1 : Int) (l2 : List Int) : Option (Bool) := (turnstilelaw11_awake.f k).bind fun t465 => (if t465 = true then (turnstilelaw11_RecordCuts.j0 k a1 l2 t465 (decide ((l2.length : Int) > 1048576)) a0_0 a0_1 a0_2 a0_3 a0_4 a0_5 a0_6 a0_7 a0_8 a0_9 a0_10) else (turnstilelaw11_RecordCuts.j0 k a1 l2 t465 true a0_0 a0_1 a0_2 a0_3 a0_4 a0_5 a0_6 a0_7 a0_8 a0_9 a0_10))
theorem turnstilelaw11_RecordCuts.mono_l : ∀ k, (∀ y0 y1 y2 y3 y4 y5 y6 y7 y8 y9 y10 y11 y12 y13 y14, LeO (turnstilelaw11_RecordCuts.j0 k y0 y1 y2 y3 y4 y5 y6 y7 y8 y9 y10 y11 y12 y13 y14) (turnstilelaw11_RecordCuts.j0 (k + 1) y0 y1 y2 y3 y4 y5 y6 y7 y8 y9 y10 y11 y12 y13 y14)) ∧ (∀ y0 y1 y2 y3, LeO (turnstilelaw11_RecordCuts.j1 k y0 y1 y2 y3) (turnstilelaw11_RecordCuts.j1 (k + 1) y0 y1 y2 y3)) ∧ (∀ y0 y1 y2, LeO (turnstilelaw11_RecordCuts.j2 k y0 y1 y2) (turnstilelaw11_RecordCuts.j2 (k + 1) y0 y1 y2))
  | 0 => ⟨fun _ _ _ _ _ _ _ _ _ _ _ _ _ _ _ r h => by simp [turnstilelaw11_RecordCuts.j0] at h, fun _ _ _ _ r h => by simp [turnstilelaw11_RecordCuts.j1] at h, fun _ _ _ r h => by simp [turnstilelaw11_RecordCuts.j2] at h⟩
  | k + 1 => by
    obtain ⟨ih0, ih1, ih2⟩ := turnstilelaw11_RecordCuts.mono_l k
    refine ⟨?_, ?_, ?_⟩
    · intro y0 y1 y2 y3 y4 y5 y6 y7 y8 y9 y10 y11 y12 y13 y14
      unfold turnstilelaw11_RecordCuts.j0
      repeat' first
      | (with_reducible exact ih0 _ _ _ _ _ _ _ _ _ _ _ _ _ _ _)
      | (with_reducible exact ih1 _ _ _ _)
      | (with_reducible exact ih2 _ _ _)
      | (with_reducible exact record_Decode.mono _ _)
      | (with_reducible exact record_Encode.mono _ _ _ _ _ _ _ _ _ _ _ _)
      | (with_reducible exact turnstilelaw11_awake.mono _)
      | (with_reducible exact LeO.refl _)
      | (with_reducible exact LeO.none _)
      | (with_reducible refine LeO.ite ?_ ?_)
      | (with_reducible refine LeO.bind ?_ (fun _ => ?_))
      | exact ih0 _ _ _ _ _ _ _ _ _ _ _ _ _ _ _
      | exact ih1 _ _ _ _
      | exact ih2 _ _ _
      | exact record_Decode.mono _ _
      | exact record_Encode.mono _ _ _ _ _ _ _ _ _ _ _ _
      | exact turnstilelaw11_awake.mono _
      | exact LeO.none _
      | refine LeO.ite ?_ ?_
      | refine LeO.bind ?_ (fun _ => ?_)
    · intro y0 y1 y2 y3
      unfold turnstilelaw11_RecordCuts.j1
      repeat' first
      | (with_reducible exact ih0 _ _ _ _ _ _ _ _ _ _ _ _ _ _ _)
      | (with_reducible exact ih1 _ _ _ _)
      | (with_reducible exact ih2 _ _ _)
      | (with_reducible exact record_Decode.mono _ _)
      | (with_reducible exact record_Encode.mono _ _ _ _ _ _ _ _ _ _ _ _)
      | (with_reducible exact turnstilelaw11_awake.mono _)
      | (with_reducible exact LeO.refl _)
      | (with_reducible exact LeO.none _)
      | (with_reducible refine LeO.ite ?_ ?_)
      | (with_reducible refine LeO.bind ?_ (fun _ => ?_))
      | exact ih0 _ _ _ _ _ _ _ _ _ _ _ _ _ _ _
      | exact ih1 _ _ _ _
      | exact ih2 _ _ _
      | exact record_Decode.mono _ _
      | exact record_Encode.mono _ _ _ _ _ _ _ _ _ _ _ _
      | exact turnstilelaw11_awake.mono _
      | exact LeO.none _
      | refine LeO.ite ?_ ?_
      | refine LeO.bind ?_ (fun _ => ?_)
    · intro y0 y1 y2
      unfold turnstilelaw11_RecordCuts.j2
      repeat' first
      | (with_reducible exact ih0 _ _ _ _ _ _ _ _ _ _ _ _ _ _ _)
      | (with_reducible exact ih1 _ _ _ _)
      | (with_reducible exact ih2 _ _ _)
      | (with_reducible exact record_Decode.mono _ _)
      | (with_reducible exact record_Encode.mono _ _ _ _ _ _ _ _ _ _ _ _)
      | (with_reducible exact turnstilelaw11_awake.mono _)
      | (with_reducible exact LeO.refl _)
      | (with_reducible exact LeO.none _)
      | (with_reducible refine LeO.ite ?_ ?_)
      | (with_reducible refine LeO.bind ?_ (fun _ => ?_))
      | exact ih0 _ _ _ _ _ _ _ _ _ _ _ _ _ _ _
      | exact ih1 _ _ _ _
      | exact ih2 _ _ _
      | exact record_Decode.mono _ _
      | exact record_Encode.mono _ _ _ _ _ _ _ _ _ _ _ _
      | exact turnstilelaw11_awake.mono _
      | exact LeO.none _
      | refine LeO.ite ?_ ?_
      | refine LeO.bind ?_ (fun _ => ?_)
theorem turnstilelaw11_RecordCuts.mono : ∀ a0 a1 a2 a3 a4 a5 a6 a7 a8 a9 a10 a11 a12 k, LeO (turnstilelaw11_RecordCuts.f k a0 a1 a2 a3 a4 a5 a6 a7 a8 a9 a10 a11 a12) (turnstilelaw11_RecordCuts.f (k + 1) a0 a1 a2 a3 a4 a5 a6 a7 a8 a9 a10 a11 a12) := by
  intro a0 a1 a2 a3 a4 a5 a6 a7 a8 a9 a10 a11 a12 k
  obtain ⟨ih0, ih1, ih2⟩ := turnstilelaw11_RecordCuts.mono_l k
  unfold turnstilelaw11_RecordCuts.f
  repeat' first
      | (with_reducible exact ih0 _ _ _ _ _ _ _ _ _ _ _ _ _ _ _)
      | (with_reducible exact ih1 _ _ _ _)
      | (with_reducible exact ih2 _ _ _)
      | (with_reducible exact record_Decode.mono _ _)
      | (with_reducible exact record_Encode.mono _ _ _ _ _ _ _ _ _ _ _ _)
      | (with_reducible exact turnstilelaw11_awake.mono _)
      | (with_reducible exact LeO.refl _)
      | (with_reducible exact LeO.none _)
      | (with_reducible refine LeO.ite ?_ ?_)
      | (with_reducible refine LeO.bind ?_ (fun _ => ?_))
      | exact ih0 _ _ _ _ _ _ _ _ _ _ _ _ _ _ _
      | exact ih1 _ _ _ _
      | exact ih2 _ _ _
      | exact record_Decode.mono _ _
      | exact record_Encode.mono _ _ _ _ _ _ _ _ _ _ _ _
      | exact turnstilelaw11_awake.mono _
      | exact LeO.none _
      | refine LeO.ite ?_ ?_
      | refine LeO.bind ?_ (fun _ => ?_)
set_option maxHeartbeats 8000000 in
set_option maxRecDepth 100000 in
theorem turnstilelaw11_RecordCuts.calls (k : Nat) [Errs] (a0_0 : Int) (a0_1 : Int) (a0_2 : ByteArray) (a0_3 : Int) (a0_4 : Int) (a0_5 : Int) (a0_6 : Int) (a0_7 : Int) (a0_8 : Int) (a0_9 : Int) (a0_10 : Int) (a1 : Int) (A2 : Option Addr) (c2 : Nat) (l2 : List Int) (r : Bool) (w : World) (hE : Sent w) (hr2 : Kd.C (Kd.int .u8) w A2 l2.length l2) (hc2 : l2.length ≤ c2) (h : turnstilelaw11_RecordCuts.f k a0_0 a0_1 a0_2 a0_3 a0_4 a0_5 a0_6 a0_7 a0_8 a0_9 a0_10 a1 l2 = some r) :
    Calls Tryd.prog 6 #[.agg #[.int .i64 a0_0, .int .u64 a0_1, .string a0_2, .int .i64 a0_3, .int .u64 a0_4, .int .u64 a0_5, .int .u64 a0_6, .int .u64 a0_7, .int .u64 a0_8, .int .u64 a0_9, .int .u64 a0_10], .int .i64 a1, .slice A2 l2.length c2] w fun e w' => e = .returned (.bool r) ∧ Below w.heap.size w w' := by
  have hu32 := Tryd.underlying32
  have hu37 := Tryd.underlying37
  have HR2 := Aside0.mk hr2
  have HC2 := Aside0.mk hc2
  clear hr2 hc2
  have HERR := Aside0.mk hE
  clear hE
  have HB := Aside0.mk (Below.refl w.heap.size w)
  have H : ((turnstilelaw11_awake.f k).bind fun t465 => (if t465 = true then (turnstilelaw11_RecordCuts.j0 k a1 l2 t465 (decide ((l2.length : Int) > 1048576)) a0_0 a0_1 a0_2 a0_3 a0_4 a0_5 a0_6 a0_7 a0_8 a0_9 a0_10) else (turnstilelaw11_RecordCuts.j0 k a1 l2 t465 true a0_0 a0_1 a0_2 a0_3 a0_4 a0_5 a0_6 a0_7 a0_8 a0_9 a0_10))) = some r := h
  clear h
  replace H := Option.bind_eq_some_iff.mp H
  obtain ⟨t465, A40, H⟩ := H
  replace H : (if t465 = true then (turnstilelaw11_RecordCuts.j0 k a1 l2 t465 (decide ((l2.length : Int) > 1048576)) a0_0 a0_1 a0_2 a0_3 a0_4 a0_5 a0_6 a0_7 a0_8 a0_9 a0_10) else (turnstilelaw11_RecordCuts.j0 k a1 l2 t465 true a0_0 a0_1 a0_2 a0_3 a0_4 a0_5 a0_6 a0_7 a0_8 a0_9 a0_10)) = some r := H
  have A4 := Aside0.mk A40
  clear A40
  have HC5 := Aside0.mk H
  clear H
  go_enter Tryd.func6, Tryd.ntmps6
  go_upto_region 2 with (first | ((with_reducible refine gate_dst (N := 3) rfl ?_); (try (refine gate_guard (by rfl) ?_; dsimp only)); refine bx 3 #[.int .i64 a0_0, .int .u64 a0_1, .string a0_2, .int .i64 a0_3, .int .u64 a0_4, .int .u64 a0_5, .int .u64 a0_6, .int .u64 a0_7, .int .u64 a0_8, .int .u64 a0_9, .int .u64 a0_10] 32 ?_; intro gb464 hg w6 hbox hb; have n0_ := bs HB hb; have n1_ := Aside0.mk (hbox); have n2_ := sz HB hg; have n3_ := sz HB hg; clear HB; have HB := n0_; have BK464 := n1_; have GW464 := n2_; have GE464 := n3_; clear n0_ n1_ n2_ n3_; clear hb hbox hg) | ((with_reducible refine gate_callee (f := 13) rfl ?_); refine gl (some 14) Tryd.func13 #[] ?_; (with_reducible refine (turnstilelaw11_awake.calls k  t465 _ ?side1 A4.out).mono ?_); (case side1 => exact (HERR.out.below (bw HB))); rintro e w7 ⟨rfl, hb⟩; refine ⟨_, rfl, ?_⟩; have n0_ := bb BK464 hb; have n1_ := bs HB hb; clear BK464; clear HB; have BK464 := n0_; have HB := n1_; clear n0_ n1_; (try clear hb); (try clear hb2); (try clear hk); (try clear hi)))
  (try simp only [Act.put, List.setIfInBounds_toArray, List.set_cons_zero, List.set_cons_succ])
  go_cut [21] (fun v21 wc => ∃ (kq : Nat) (x21_4 : Bool), v21 = .bool x21_4 ∧ Aside0 (turnstilelaw11_RecordCuts.j0 kq a1 l2 t465 x21_4 a0_0 a0_1 a0_2 a0_3 a0_4 a0_5 a0_6 a0_7 a0_8 a0_9 a0_10 = some r) ∧ Aside0 (kq ≤ k) ∧ Aside0 (wc.heap[gb464]? = some (.cells #[.int .i64 a0_0, .int .u64 a0_1, .string a0_2, .int .i64 a0_3, .int .u64 a0_4, .int .u64 a0_5, .int .u64 a0_6, .int .u64 a0_7, .int .u64 a0_8, .int .u64 a0_9, .int .u64 a0_10] 32 (0, 0))) ∧ Aside0 (Below w.heap.size w wc))
  case first =>
    have H := HC5.out
    clear HC5
    by_cases c8 : t465 = true
    · subst c8
      have H1 : (turnstilelaw11_RecordCuts.j0 k a1 l2 true (decide ((l2.length : Int) > 1048576)) a0_0 a0_1 a0_2 a0_3 a0_4 a0_5 a0_6 a0_7 a0_8 a0_9 a0_10) = some r := by rw [if_pos rfl] at H; exact H
      clear H
      have H := H1
      clear H1
      have H' := Aside0.mk H
      clear H
      go_wp2
      go_meet
      case rel => exact ⟨_, (decide ((l2.length : Int) > 1048576)), rs, H', ⟨by first | omega | exact Nat.le_refl _⟩, ⟨bk BK464⟩, ⟨bw HB⟩⟩
    · replace c8 := Bool.eq_false_iff.mpr c8
      subst c8
      have H1 : (turnstilelaw11_RecordCuts.j0 k a1 l2 false true a0_0 a0_1 a0_2 a0_3 a0_4 a0_5 a0_6 a0_7 a0_8 a0_9 a0_10) = some r := by rw [if_neg (show ¬ (false = true) by decide)] at H; exact H
      clear H
      have H := H1
      clear H1
      have H' := Aside0.mk H
      clear H
      go_wp2
      go_meet
      case rel => exact ⟨_, (true), rs, H', ⟨by first | omega | exact Nat.le_refl _⟩, ⟨bk BK464⟩, ⟨bw HB⟩⟩
  case rest =>
    clear HC5
    try clear c1
    try clear c2
    try clear p2
    try clear c6
    try clear c8
    obtain ⟨kq, x21_4, rfl, HA, HJ4, BK464, HB⟩ := hcut
    cases kq with
    | zero => exact absurd HA.out (by simp [turnstilelaw11_RecordCuts.j0])
    | succ kj4 =>
      have H := HA.out
      clear HA
      simp only [turnstilelaw11_RecordCuts.j0] at H
      by_cases c9 : x21_4 = true
      · subst c9
        have H1 : (some t465) = some r := by rw [if_pos rfl] at H; exact H
        clear H
        have H := H1
        clear H1
        obtain rfl := Option.some.inj H
        go_wp2
        go_ret
        exact ⟨re, bw HB⟩
      · replace c9 := Bool.eq_false_iff.mpr c9
        subst c9
        have H1 : ((record_Encode.f kj4 a0_0 a0_1 a0_2 a0_3 a0_4 a0_5 a0_6 a0_7 a0_8 a0_9 a0_10).bind fun bt466 => (if 0 ≤ bt466.2 then (if bt466.2 = 0 then (if a1 ≥ 0 then (turnstilelaw11_RecordCuts.j1 kj4 a1 l2 bt466.1 (decide (a1 < (bt466.1.length : Int)))) else (turnstilelaw11_RecordCuts.j1 kj4 a1 l2 bt466.1 false)) else (if bt466.2 ≤ 5 then (some (bt466.2 == 1)) else (none))) else (none))) = some r := by rw [if_neg (show ¬ (false = true) by decide)] at H; exact H
        clear H
        have H := H1
        clear H1
        replace H := Option.bind_eq_some_iff.mp H
        obtain ⟨⟨t466, t469⟩, A100, H⟩ := H
        replace H : (if 0 ≤ t469 then (if t469 = 0 then (if a1 ≥ 0 then (turnstilelaw11_RecordCuts.j1 kj4 a1 l2 t466 (decide (a1 < (t466.length : Int)))) else (turnstilelaw11_RecordCuts.j1 kj4 a1 l2 t466 false)) else (if t469 ≤ 5 then (some (t469 == 1)) else (none))) else (none)) = some r := H
        have A10 := Aside0.mk A100
        clear A100
        by_cases c11 : 0 ≤ t469
        · rw [if_pos c11] at H
          have c11b0 := eq_true c11
          have c11b1 : decide (0 ≤ t469) = true := decide_eq_true c11
          clear c11
          by_cases c12 : t469 = 0
          · rw [if_pos c12] at H
            have c12b0 : (t469 == 0) = true := beq_iff_eq.mpr c12
            have c12b1 : (t469 != 0) = false := bne_eq_false_iff_eq.mpr c12
            clear c12
            have HC13 := Aside0.mk H
            clear H
            obtain ⟨hcz14_0, hcz14_1, hcz14_2, hcz14_3, hcz14_4, hcz14_5, hcz14_6, hcz14_7, hcz14_8, hcz14_9, hcz14_10, hfz14_0, hfz14_1, hfz14_2, hfz14_3, hfz14_4, hfz14_5, hfz14_6, hfz14_7, hfz14_8, hfz14_9, hfz14_10⟩ := bc11 BK464
            go_upto_region 7 with (first | ((with_reducible refine gate_callee (f := 16) rfl ?_); refine gl (some 25) Tryd.func16 #[.agg #[.int .i64 a0_0, .int .u64 a0_1, .string a0_2, .int .i64 a0_3, .int .u64 a0_4, .int .u64 a0_5, .int .u64 a0_6, .int .u64 a0_7, .int .u64 a0_8, .int .u64 a0_9, .int .u64 a0_10]] ?_; (with_reducible refine (record_Encode.calls kj4 a0_0 a0_1 a0_2 a0_3 a0_4 a0_5 a0_6 a0_7 a0_8 a0_9 a0_10 t466 t469 _ ?side1 A10.out).mono ?_); (case side1 => exact (HERR.out.below (bw HB))); rintro e w15 ⟨v467, rfl, ho0, hb⟩; refine ⟨_, rfl, ?_⟩; have n0_ := Aside0.mk (Kd.R_lower ho0 (below_size (bw HB))); have n1_ := bb BK464 hb; have n2_ := bs HB hb; clear BK464; clear HB; have HO468 := n0_; have BK464 := n1_; have HB := n2_; clear n0_ n1_ n2_; (try clear hb); (try clear hb2); (try clear hk); (try clear hi); (try clear ho0)) | ((with_reducible refine gate_dst (N := 29) rfl ?_); (try (refine gate_guard (by rfl) ?_; dsimp only)); refine nen_err t469 (b := (t469 != 0)) ?_ rfl (of_decide_eq_true (by first | (with_reducible assumption) | assumption))))
            (try simp only [Act.put, List.setIfInBounds_toArray, List.set_cons_zero, List.set_cons_succ])
            go_cut [40] (fun v40 wc => ∃ (kq : Nat) (x40_12 : Bool), v40 = .bool x40_12 ∧ Aside0 (turnstilelaw11_RecordCuts.j1 kq a1 l2 t466 x40_12 = some r) ∧ Aside0 (kq ≤ kj4) ∧ Aside0 (Kd.R (Kd.int .u8) 5 wc w.heap.size (fun _ => True) v467 t466) ∧ Aside0 (wc.heap[gb464]? = some (.cells #[.int .i64 a0_0, .int .u64 a0_1, .string a0_2, .int .i64 a0_3, .int .u64 a0_4, .int .u64 a0_5, .int .u64 a0_6, .int .u64 a0_7, .int .u64 a0_8, .int .u64 a0_9, .int .u64 a0_10] 32 (0, 0))) ∧ Aside0 (Below w.heap.size w wc))
            case first =>
              have H := HC13.out
              clear HC13
              by_cases c16 : a1 ≥ 0
              · rw [if_pos c16] at H
                have c16b0 : decide (0 ≤ a1) = true := decide_eq_true c16
                clear c16
                (first | rw [c16b0] | (simp only [i64_w, i32_w]; rw [c16b0]) | skip)
                have H' := Aside0.mk H
                clear H
                obtain ⟨Ao17, co17, eo17⟩ := Kd.R_slice HO468.out
                subst eo17
                go_wp2
                go_meet
                case rel => exact ⟨_, (decide (a1 < (t466.length : Int))), rs, H', ⟨by have := HJ4.out; first | omega | exact Nat.le_refl _⟩, ⟨by (with_reducible repeat (first | apply Kd.R_alloc | apply Kd.R_drewN | apply Kd.R_drew)); exact HO468.out⟩, ⟨bk BK464⟩, ⟨bw HB⟩⟩
              · rw [if_neg c16] at H
                have c16b0 : decide (0 ≤ a1) = false := decide_eq_false c16
                clear c16
                (first | rw [c16b0] | (simp only [i64_w, i32_w]; rw [c16b0]) | skip)
                have H' := Aside0.mk H
                clear H
                go_wp2
                go_meet
                case rel => exact ⟨_, (false), rs, H', ⟨by have := HJ4.out; first | omega | exact Nat.le_refl _⟩, ⟨by (with_reducible repeat (first | apply Kd.R_alloc | apply Kd.R_drewN | apply Kd.R_drew)); exact HO468.out⟩, ⟨bk BK464⟩, ⟨bw HB⟩⟩
            case rest =>
              clear HC13
              try clear c1
              try clear c2
              try clear p2
              try clear c6
              try clear c8
              try clear c9
              try clear c11
              try clear c11b0
              try clear c11b1
              try clear c12
              try clear c12b0
              try clear c12b1
              try clear c13
              try clear c16
              try clear c16b0
              try clear hcz14_0
              try clear hcz14_1
              try clear hcz14_10
              try clear hcz14_2
              try clear hcz14_3
              try clear hcz14_4
              try clear hcz14_5
              try clear hcz14_6
              try clear hcz14_7
              try clear hcz14_8
              try clear hcz14_9
              try clear hfz14_0
              try clear hfz14_1
              try clear hfz14_10
              try clear hfz14_2
              try clear hfz14_3
              try clear hfz14_4
              try clear hfz14_5
              try clear hfz14_6
              try clear hfz14_7
              try clear hfz14_8
              try clear hfz14_9
              try clear p2
              obtain ⟨kq, x40_12, rfl, HA, HJ12, HO_8, BK464, HB⟩ := hcut
              cases kq with
              | zero => exact absurd HA.out (by simp [turnstilelaw11_RecordCuts.j1])
              | succ kj12 =>
                have H := HA.out
                clear HA
                simp only [turnstilelaw11_RecordCuts.j1] at H
                by_cases c18 : x40_12 = true
                · subst c18
                  have H1 : ((some (([] : List Int) : List Int)).bind fun y470 => (if 0 ≤ a1 then (if a1 ≤ (t466.length : Int) then ((some (t466.take (a1 : Int).toNat : List Int)).bind fun y473 => (if y470.length + y473.length < 140737488355328 then ((record_Decode.f kj12 (y470 ++ y473)).bind fun bt480 => (if 0 ≤ bt480.2.2.2.2.2.2.2.2.2.2.2 then (if bt480.2.2.2.2.2.2.2.2.2.2.2 ≤ 5 then (if bt480.2.2.2.2.2.2.2.2.2.2.2 = 2 then (turnstilelaw11_RecordCuts.j2 kj12 l2 t466 (!(bt480.1 == 0) || (!(bt480.2.1 == 0) || (!(bt480.2.2.1.toList == ([] : List UInt8)) || ((!(bt480.2.2.2.1 == 0) || (!(bt480.2.2.2.2.1 == 0) || (!(bt480.2.2.2.2.2.1 == 0) || (!(bt480.2.2.2.2.2.2.1 == 0) || (!(bt480.2.2.2.2.2.2.2.1 == 0)))))) || ((!(bt480.2.2.2.2.2.2.2.2.1 == 0) || (!(bt480.2.2.2.2.2.2.2.2.2.1 == 0) || (!(bt480.2.2.2.2.2.2.2.2.2.2.1 == 0)))))))))) else (turnstilelaw11_RecordCuts.j2 kj12 l2 t466 true)) else (none)) else (none))) else (none))) else (none)) else (none))) = some r := by rw [if_pos rfl] at H; exact H
                  clear H
                  have H := H1
                  clear H1
                  obtain ⟨y470, hy470⟩ : ∃ y_ : List Int, y_ = (([] : List Int)) := ⟨_, rfl⟩
                  replace H : (if 0 ≤ a1 then (if a1 ≤ (t466.length : Int) then ((some (t466.take (a1 : Int).toNat : List Int)).bind fun y473 => (if y470.length + y473.length < 140737488355328 then ((record_Decode.f kj12 (y470 ++ y473)).bind fun bt480 => (if 0 ≤ bt480.2.2.2.2.2.2.2.2.2.2.2 then (if bt480.2.2.2.2.2.2.2.2.2.2.2 ≤ 5 then (if bt480.2.2.2.2.2.2.2.2.2.2.2 = 2 then (turnstilelaw11_RecordCuts.j2 kj12 l2 t466 (!(bt480.1 == 0) || (!(bt480.2.1 == 0) || (!(bt480.2.2.1.toList == ([] : List UInt8)) || ((!(bt480.2.2.2.1 == 0) || (!(bt480.2.2.2.2.1 == 0) || (!(bt480.2.2.2.2.2.1 == 0) || (!(bt480.2.2.2.2.2.2.1 == 0) || (!(bt480.2.2.2.2.2.2.2.1 == 0)))))) || ((!(bt480.2.2.2.2.2.2.2.2.1 == 0) || (!(bt480.2.2.2.2.2.2.2.2.2.1 == 0) || (!(bt480.2.2.2.2.2.2.2.2.2.2.1 == 0)))))))))) else (turnstilelaw11_RecordCuts.j2 kj12 l2 t466 true)) else (none)) else (none))) else (none))) else (none)) else (none)) = some r := by first | (rw [hy470]; with_reducible exact H) | (have H2_ := (Option.bind_some _ _).symm.trans H; rw [hy470]; with_reducible exact H2_) | (have H2_ := (Option.bind_some _ _).symm.trans H; with_reducible exact H2_) | with_reducible exact H | (rw [hy470]; exact H) | exact H
                  have Ny470 := Aside0.mk hy470
                  clear hy470
                  by_cases c19 : 0 ≤ a1
                  · rw [if_pos c19] at H
                    have c19b0 := eq_true c19
                    have c19b1 : decide (0 ≤ a1) = true := decide_eq_true c19
                    clear c19
                    by_cases c20 : a1 ≤ (t466.length : Int)
                    · rw [if_pos c20] at H
                      have c20b0 := eq_true c20
                      have c20b1 : decide (a1 ≤ (t466.length : Int)) = true := decide_eq_true c20
                      clear c20
                      obtain ⟨y473, hy473⟩ : ∃ y_ : List Int, y_ = (t466.take (a1 : Int).toNat) := ⟨_, rfl⟩
                      replace H : (if y470.length + y473.length < 140737488355328 then ((record_Decode.f kj12 (y470 ++ y473)).bind fun bt480 => (if 0 ≤ bt480.2.2.2.2.2.2.2.2.2.2.2 then (if bt480.2.2.2.2.2.2.2.2.2.2.2 ≤ 5 then (if bt480.2.2.2.2.2.2.2.2.2.2.2 = 2 then (turnstilelaw11_RecordCuts.j2 kj12 l2 t466 (!(bt480.1 == 0) || (!(bt480.2.1 == 0) || (!(bt480.2.2.1.toList == ([] : List UInt8)) || ((!(bt480.2.2.2.1 == 0) || (!(bt480.2.2.2.2.1 == 0) || (!(bt480.2.2.2.2.2.1 == 0) || (!(bt480.2.2.2.2.2.2.1 == 0) || (!(bt480.2.2.2.2.2.2.2.1 == 0)))))) || ((!(bt480.2.2.2.2.2.2.2.2.1 == 0) || (!(bt480.2.2.2.2.2.2.2.2.2.1 == 0) || (!(bt480.2.2.2.2.2.2.2.2.2.2.1 == 0)))))))))) else (turnstilelaw11_RecordCuts.j2 kj12 l2 t466 true)) else (none)) else (none))) else (none)) = some r := by first | (rw [hy473]; with_reducible exact H) | (have H2_ := (Option.bind_some _ _).symm.trans H; rw [hy473]; with_reducible exact H2_) | (have H2_ := (Option.bind_some _ _).symm.trans H; with_reducible exact H2_) | with_reducible exact H | (rw [hy473]; exact H) | exact H
                      have Ny473 := Aside0.mk hy473
                      clear hy473
                      by_cases c21 : y470.length + y473.length < 140737488355328
                      · rw [if_pos c21] at H
                        have LMc21 := Aside0.mk c21
                        clear c21
                        obtain ⟨y477, hy477⟩ : ∃ y_ : List Int, y_ = (y470 ++ y473) := ⟨_, rfl⟩
                        replace H : ((record_Decode.f kj12 y477).bind fun bt480 => (if 0 ≤ bt480.2.2.2.2.2.2.2.2.2.2.2 then (if bt480.2.2.2.2.2.2.2.2.2.2.2 ≤ 5 then (if bt480.2.2.2.2.2.2.2.2.2.2.2 = 2 then (turnstilelaw11_RecordCuts.j2 kj12 l2 t466 (!(bt480.1 == 0) || (!(bt480.2.1 == 0) || (!(bt480.2.2.1.toList == ([] : List UInt8)) || ((!(bt480.2.2.2.1 == 0) || (!(bt480.2.2.2.2.1 == 0) || (!(bt480.2.2.2.2.2.1 == 0) || (!(bt480.2.2.2.2.2.2.1 == 0) || (!(bt480.2.2.2.2.2.2.2.1 == 0)))))) || ((!(bt480.2.2.2.2.2.2.2.2.1 == 0) || (!(bt480.2.2.2.2.2.2.2.2.2.1 == 0) || (!(bt480.2.2.2.2.2.2.2.2.2.2.1 == 0)))))))))) else (turnstilelaw11_RecordCuts.j2 kj12 l2 t466 true)) else (none)) else (none))) = some r := by first | (rw [hy477]; with_reducible exact H) | (have H2_ := (Option.bind_some _ _).symm.trans H; rw [hy477]; with_reducible exact H2_) | (have H2_ := (Option.bind_some _ _).symm.trans H; with_reducible exact H2_) | with_reducible exact H | (rw [hy477]; exact H) | exact H
                        have Ny477 := Aside0.mk hy477
                        clear hy477
                        replace H := Option.bind_eq_some_iff.mp H
                        obtain ⟨⟨t480, t481, t482, t483, t484, t485, t486, t487, t488, t489, t490, t491⟩, A220, H⟩ := H
                        replace H : (if 0 ≤ t491 then (if t491 ≤ 5 then (if t491 = 2 then (turnstilelaw11_RecordCuts.j2 kj12 l2 t466 (!(t480 == 0) || (!(t481 == 0) || (!(t482.toList == ([] : List UInt8)) || ((!(t483 == 0) || (!(t484 == 0) || (!(t485 == 0) || (!(t486 == 0) || (!(t487 == 0)))))) || ((!(t488 == 0) || (!(t489 == 0) || (!(t490 == 0)))))))))) else (turnstilelaw11_RecordCuts.j2 kj12 l2 t466 true)) else (none)) else (none)) = some r := H
                        have A22 := Aside0.mk A220
                        clear A220
                        have HC23 := Aside0.mk H
                        clear H
                        go_upto_region 9 with (first | ((with_reducible refine gate_dst (N := 42) rfl ?_); (try (refine gate_guard (by rfl) ?_; dsimp only)); refine Kd.R_lit (Kd.int .u8) _ 5 ?hg (N := 42) ?hd (xs := ([] : List Int)) (inner := []) (ok := fun _ => True) (okp := fun _ => True) ?hr ?hp (fun _ hk => hk) trivial (Below.refl _ _) (Nat.le_refl _) (by simp) ?_; (case hd => rfl); (case hg => rfl); (case hr => first | (go_simp; done) | (go_simp; rfl)); (case hp => exact (Reps.none _ _)); intro v471 w24 ho25 hb hg_ hnew_; clear hg_ hnew_; (first | rw [← Ny470.out] at ho25 | (simp only [Int.reduceToNat] at ho25; rw [← Ny470.out] at ho25)); have n0_ := Aside0.mk (Kd.R_elder' (by (with_reducible repeat (first | apply Kd.R_alloc | apply Kd.R_drewN | apply Kd.R_drew)); exact HO_8.out) (Kd.R_base ho25) hb); have n1_ := Aside0.mk (Kd.R_lower (Kd.R_new' ho25 (Kd.R_lt (by (with_reducible repeat (first | apply Kd.R_alloc | apply Kd.R_drewN | apply Kd.R_drew)); exact HO_8.out))) (below_size (bw HB))); have n2_ := bb BK464 hb; have n3_ := bs HB hb; clear HO_8; clear BK464; clear HB; have HO_8 := n0_; have HO472 := n1_; have BK464 := n2_; have HB := n3_; clear n0_ n1_ n2_ n3_; clear hb ho25; obtain ⟨Ao27, co27, eo27⟩ := Kd.R_slice HO_8.out; subst eo27; have q26 : (a1 : Int) ≤ ((t466.length : Int) : Int) := of_decide_eq_true (by first | (with_reducible assumption) | assumption); obtain ⟨i026, hi026, _, hsz26, _⟩ := info_parts info5; have hroom26 : t466.length ≤ co27 := (Kd.R_reads' HO_8.out).2.1; have hC26 : Kd.C (Kd.int .u8) _ Ao27 t466.length t466 := (Kd.R_reads' HO_8.out).2.2; have hcut26 := cut_to (P := Tryd.prog) 33 5 .i64 Tryd.underlying33 hi026 Ao27 t466.length co27 a1 (of_decide_eq_true (by first | (with_reducible assumption) | assumption)) q26 hroom26; have hr26 := Kd.C_take (m := (a1 : Int).toNat) hC26 (by omega); have hy26 : y473.length = (a1 : Int).toNat := (by rw [Ny473.out, List.length_take]; omega); rw [← Ny473.out] at hr26; rw [← hy26] at hcut26; have HR476 := Aside0.mk hr26; have HC476 := Aside0.mk (show y473.length ≤ co27 from by omega); clear hr26 hC26 hroom26 hi026 hsz26; have KY26 := Aside0.mk hy26; clear hy26; have KL26 := Aside0.mk (show (a1 : Int).toNat ≤ t466.length from by omega); replace q26 := eq_true q26) | ((with_reducible refine gate_builtin (b := .append) (xs := #[.tmp 42, .tmp 45]) rfl ?_); (try (refine gate_guard (by rfl) ?_; dsimp only)); at_builtin; refine Kd.R_append_rows (Kd.int .u8) (w0 := w) w.heap.size rfl (.tmp 42) (.tmp 45) 33 5 (.int .u8 0) 1 rfl Tryd.underlying33 info5 rfl (by decide) (by omega) v471 y470 y473 _ _ _ (fun k_ => some k_ ≠ (.slice Ao27 t466.length co27 : Value).ownBlock) (fun _ => False) rfl rfl ?aO ?aR (fun _ _ h => h) (fun _ h => h.elim) ?aF ?aB ?aS ?aL ?_; (case aR => repeat (first | exact (by repeat (first | (with_reducible exact HR476.out) | (with_reducible refine Kd.C_alloc ?_ _) | (with_reducible refine Kd.C_drewN ?_ _) | (with_reducible refine Kd.C_drew ?_) | exact HR476.out)) | (with_reducible refine Kd.C_alloc ?_ _) | (with_reducible refine Kd.C_drewN ?_ _) | (with_reducible refine Kd.C_drew ?_))); (case aB => exact (bw HB)); (case aF => exact (fun k_ hk => Kd.fresh' (Kd.R_lt (by (with_reducible repeat (first | apply Kd.R_alloc | apply Kd.R_drewN | apply Kd.R_drew)); exact HO_8.out)) k_ hk)); (case aO => exact (by (with_reducible repeat (first | apply Kd.R_alloc | apply Kd.R_drewN | apply Kd.R_drew)); exact Kd.R_mono HO472.out (fun _ hk => hk.2))); (case aS => exact (below_size (bw HB))); (case aL => have := LMc21.out; omega); intro v478 w28 ho hb hg hat; rw [← Ny477.out] at ho; have n0_ := Aside0.mk (Kd.R_after (ok := (fun _ => True)) (by (with_reducible repeat (first | apply Kd.R_alloc | apply Kd.R_drewN | apply Kd.R_drew)); exact HO_8.out) hg hat); have n1_ := Aside0.mk (blk_grown (g := gb464) (o := .cells #[.int .i64 a0_0, .int .u64 a0_1, .string a0_2, .int .i64 a0_3, .int .u64 a0_4, .int .u64 a0_5, .int .u64 a0_6, .int .u64 a0_7, .int .u64 a0_8, .int .u64 a0_9, .int .u64 a0_10] 32 (0, 0)) (bk BK464) hg (Kd.R_ne HO472.out BK464.out (by decide))); have n2_ := Aside0.mk (hb); have n3_ := Aside0.mk ((show Kd.C (Kd.int .u8) w28 Ao27 y473.length y473 from by rw [Ny473.out]; exact Kd.C_take (m := (a1 : Int).toNat) ((Kd.R_reads' (Kd.R_after (ok := (fun _ => True)) (by (with_reducible repeat (first | apply Kd.R_alloc | apply Kd.R_drewN | apply Kd.R_drew)); exact HO_8.out) hg hat)).2.2) KL26.out)); have n4_ := Aside0.mk (ho); clear HO_8; clear BK464; clear HB; clear HR476; clear HO472; have HO_8 := n0_; have BK464 := n1_; have HB := n2_; have HR476 := n3_; have HO479 := n4_; clear n0_ n1_ n2_ n3_ n4_; clear ho hb hg hat; obtain ⟨Ao29, co29, eo29⟩ := Kd.R_slice HO479.out; subst eo29) | ((with_reducible refine gate_callee (f := 18) rfl ?_); refine gl (some 47) Tryd.func18 #[.slice Ao29 y477.length co29] ?_; (with_reducible refine (record_Decode.calls kj12 _ _ y477 t480 t481 t482 t483 t484 t485 t486 t487 t488 t489 t490 t491 _ ?side3 ?side1 ?side2 A22.out).mono ?_); (case side1 => repeat (first | exact (Kd.R_reads' HO479.out).2.2 | (with_reducible refine Kd.C_alloc ?_ _) | (with_reducible refine Kd.C_drewN ?_ _) | (with_reducible refine Kd.C_drew ?_))); (case side2 => exact (Kd.R_reads' HO479.out).2.1); (case side3 => exact (HERR.out.below (bw HB))); rintro e w30 ⟨rfl, hb⟩; refine ⟨_, rfl, ?_⟩; have n0_ := Aside0.mk (Kd.R_below (by (with_reducible repeat (first | apply Kd.R_alloc | apply Kd.R_drewN | apply Kd.R_drew)); exact HO_8.out) hb); have n1_ := Aside0.mk (Kd.R_below (by (with_reducible repeat (first | apply Kd.R_alloc | apply Kd.R_drewN | apply Kd.R_drew)); exact HO479.out) hb); have n2_ := bb BK464 hb; have n3_ := Aside0.mk (Kd.C_below (by repeat (first | (with_reducible exact HR476.out) | (with_reducible refine Kd.C_alloc ?_ _) | (with_reducible refine Kd.C_drewN ?_ _) | (with_reducible refine Kd.C_drew ?_) | exact HR476.out)) hb); have n4_ := bs HB hb; clear HO_8; clear HO479; clear BK464; clear HR476; clear HB; have HO_8 := n0_; have HO479 := n1_; have BK464 := n2_; have HR476 := n3_; have HB := n4_; clear n0_ n1_ n2_ n3_ n4_; (try clear hb); (try clear hb2); (try clear hk); (try clear hi)) | ((with_reducible refine gate_dst (N := 10) rfl ?_); (try (refine gate_guard (by rfl) ?_; dsimp only)); refine bx 10 #[.int .i64 0, .int .u64 0, .string (⟨#[]⟩ : ByteArray), .int .i64 0, .int .u64 0, .int .u64 0, .int .u64 0, .int .u64 0, .int .u64 0, .int .u64 0, .int .u64 0] 32 ?_; intro gb492 hg w31 hbox hb; have n0_ := Aside0.mk (Kd.R_below (by (with_reducible repeat (first | apply Kd.R_alloc | apply Kd.R_drewN | apply Kd.R_drew)); exact HO_8.out) hb); have n1_ := Aside0.mk (Kd.R_below (by (with_reducible repeat (first | apply Kd.R_alloc | apply Kd.R_drewN | apply Kd.R_drew)); exact HO479.out) hb); have n2_ := bb BK464 hb; have n3_ := Aside0.mk (Kd.C_below (by repeat (first | (with_reducible exact HR476.out) | (with_reducible refine Kd.C_alloc ?_ _) | (with_reducible refine Kd.C_drewN ?_ _) | (with_reducible refine Kd.C_drew ?_) | exact HR476.out)) hb); have n4_ := bs HB hb; have n5_ := Aside0.mk (hbox); have n6_ := sz HB hg; have n7_ := sz HB hg; have n8_ := nl BK464 hg; have n9_ := nr BK464 hg; clear HO_8; clear HO479; clear BK464; clear HR476; clear HB; have HO_8 := n0_; have HO479 := n1_; have BK464 := n2_; have HR476 := n3_; have HB := n4_; have BK492 := n5_; have GW492 := n6_; have GE492 := n7_; have NB464_492 := n8_; have NB492_464 := n9_; clear n0_ n1_ n2_ n3_ n4_ n5_ n6_ n7_ n8_ n9_; clear hb hbox hg; have hnb32 := NB492_464.out; have hnc32 := NB464_492.out; obtain ⟨hcz33_0, hcz33_1, hcz33_2, hcz33_3, hcz33_4, hcz33_5, hcz33_6, hcz33_7, hcz33_8, hcz33_9, hcz33_10, hfz33_0, hfz33_1, hfz33_2, hfz33_3, hfz33_4, hfz33_5, hfz33_6, hfz33_7, hfz33_8, hfz33_9, hfz33_10⟩ := bc11 BK492))
                        (try simp only [Act.put, List.setIfInBounds_toArray, List.set_cons_zero, List.set_cons_succ])
                        go_cut [57] (fun v57 wc => ∃ (kq : Nat) (x57_22 : Bool), v57 = .bool x57_22 ∧ Aside0 (turnstilelaw11_RecordCuts.j2 kq l2 t466 x57_22 = some r) ∧ Aside0 (kq ≤ kj12) ∧ Aside0 (Kd.R (Kd.int .u8) 5 wc w.heap.size (fun _ => True) (.slice Ao27 t466.length co27) t466) ∧ Aside0 (wc.heap[gb464]? = some (.cells #[.int .i64 a0_0, .int .u64 a0_1, .string a0_2, .int .i64 a0_3, .int .u64 a0_4, .int .u64 a0_5, .int .u64 a0_6, .int .u64 a0_7, .int .u64 a0_8, .int .u64 a0_9, .int .u64 a0_10] 32 (0, 0))) ∧ Aside0 (wc.heap[gb492]? = some (.cells #[.int .i64 t480, .int .u64 t481, .string t482, .int .i64 t483, .int .u64 t484, .int .u64 t485, .int .u64 t486, .int .u64 t487, .int .u64 t488, .int .u64 t489, .int .u64 t490] 32 (0, 0))) ∧ Aside0 (Below w.heap.size w wc))
                        case first =>
                          have H := HC23.out
                          clear HC23
                          by_cases c34 : 0 ≤ t491
                          · rw [if_pos c34] at H
                            have c34b0 := eq_true c34
                            have c34b1 : decide (0 ≤ t491) = true := decide_eq_true c34
                            clear c34
                            by_cases c35 : t491 ≤ 5
                            · rw [if_pos c35] at H
                              have c35b0 := eq_true c35
                              have c35b1 : decide (t491 ≤ 5) = true := decide_eq_true c35
                              clear c35
                              by_cases c36 : t491 = 2
                              · rw [if_pos c36] at H
                                have c36b0 : (t491 == 2) = true := beq_iff_eq.mpr c36
                                have c36b1 : (t491 != 2) = false := bne_eq_false_iff_eq.mpr c36
                                clear c36
                                (first | rw [c36b0] | (simp only [i64_w, i32_w]; rw [c36b0]) | skip)
                                have H' := Aside0.mk H
                                clear H
                                have hnb37 := NB492_464.out
                                have hnc37 := NB464_492.out
                                obtain ⟨hcz38_0, hcz38_1, hcz38_2, hcz38_3, hcz38_4, hcz38_5, hcz38_6, hcz38_7, hcz38_8, hcz38_9, hcz38_10, hfz38_0, hfz38_1, hfz38_2, hfz38_3, hfz38_4, hfz38_5, hfz38_6, hfz38_7, hfz38_8, hfz38_9, hfz38_10⟩ := bc11 BK492
                                go_wp2_with (first | ((with_reducible refine gate_dst (N := 51) rfl ?_); (try (refine gate_guard (by rfl) ?_; dsimp only)); refine ld_err 2 1 (HERR.out.below (bw HB)) ?_ rfl rfl (by decide) (by have := Errs.five; omega) rfl) | ((with_reducible refine gate_dst (N := 52) rfl ?_); (try (refine gate_guard (by rfl) ?_; dsimp only)); refine ne_err t491 2 (b := (t491 != 2)) (HERR.out.below (bw HB)) ?_ rfl (of_decide_eq_true (by first | (with_reducible assumption) | assumption)) (Int.le_trans (of_decide_eq_true (by first | (with_reducible assumption) | assumption) : t491 ≤ 5) Errs.five) (by decide) (by have := Errs.five; omega)))
                                go_meet
                                case rel => exact ⟨_, ((!(t480 == 0) || (!(t481 == 0) || (!(t482.toList == ([] : List UInt8)) || ((!(t483 == 0) || (!(t484 == 0) || (!(t485 == 0) || (!(t486 == 0) || (!(t487 == 0)))))) || ((!(t488 == 0) || (!(t489 == 0) || (!(t490 == 0)))))))))), rs, H', ⟨by have := HJ4.out; have := HJ12.out; first | omega | exact Nat.le_refl _⟩, ⟨by (with_reducible repeat (first | apply Kd.R_alloc | apply Kd.R_drewN | apply Kd.R_drew)); exact Kd.R_mono (Kd.R_far (p := ⟨gb492, 10, none⟩) (Kd.R_far (p := ⟨gb492, 9, none⟩) (Kd.R_far (p := ⟨gb492, 8, none⟩) (Kd.R_far (p := ⟨gb492, 7, none⟩) (Kd.R_far (p := ⟨gb492, 6, none⟩) (Kd.R_far (p := ⟨gb492, 5, none⟩) (Kd.R_far (p := ⟨gb492, 4, none⟩) (Kd.R_far (p := ⟨gb492, 3, none⟩) (Kd.R_far (p := ⟨gb492, 2, none⟩) (Kd.R_far (p := ⟨gb492, 1, none⟩) (Kd.R_far (p := ⟨gb492, 0, none⟩) (Kd.R_types HO_8.out BK492.out (by decide)) (fun _ hk => hk.2) (.int .i64 t480)) (fun _ hk => hk.2) (.int .u64 t481)) (fun _ hk => hk.2) (.string t482)) (fun _ hk => hk.2) (.int .i64 t483)) (fun _ hk => hk.2) (.int .u64 t484)) (fun _ hk => hk.2) (.int .u64 t485)) (fun _ hk => hk.2) (.int .u64 t486)) (fun _ hk => hk.2) (.int .u64 t487)) (fun _ hk => hk.2) (.int .u64 t488)) (fun _ hk => hk.2) (.int .u64 t489)) (fun _ hk => hk.2) (.int .u64 t490)) (fun _ hk => trivial)⟩, ⟨bk BK464⟩, ⟨by (with_reducible repeat (first | refine blk_drewN ?_ _ | refine blk_drew ?_ | refine blk_alloc ?_ _)); refine blk_put (cs := #[.int .i64 t480, .int .u64 t481, .string t482, .int .i64 t483, .int .u64 t484, .int .u64 t485, .int .u64 t486, .int .u64 t487, .int .u64 t488, .int .u64 t489, .int .u64 0]) ?_ 10 _ rfl; (with_reducible repeat (first | refine blk_drewN ?_ _ | refine blk_drew ?_ | refine blk_alloc ?_ _)); refine blk_put (cs := #[.int .i64 t480, .int .u64 t481, .string t482, .int .i64 t483, .int .u64 t484, .int .u64 t485, .int .u64 t486, .int .u64 t487, .int .u64 t488, .int .u64 0, .int .u64 0]) ?_ 9 _ rfl; (with_reducible repeat (first | refine blk_drewN ?_ _ | refine blk_drew ?_ | refine blk_alloc ?_ _)); refine blk_put (cs := #[.int .i64 t480, .int .u64 t481, .string t482, .int .i64 t483, .int .u64 t484, .int .u64 t485, .int .u64 t486, .int .u64 t487, .int .u64 0, .int .u64 0, .int .u64 0]) ?_ 8 _ rfl; (with_reducible repeat (first | refine blk_drewN ?_ _ | refine blk_drew ?_ | refine blk_alloc ?_ _)); refine blk_put (cs := #[.int .i64 t480, .int .u64 t481, .string t482, .int .i64 t483, .int .u64 t484, .int .u64 t485, .int .u64 t486, .int .u64 0, .int .u64 0, .int .u64 0, .int .u64 0]) ?_ 7 _ rfl; (with_reducible repeat (first | refine blk_drewN ?_ _ | refine blk_drew ?_ | refine blk_alloc ?_ _)); refine blk_put (cs := #[.int .i64 t480, .int .u64 t481, .string t482, .int .i64 t483, .int .u64 t484, .int .u64 t485, .int .u64 0, .int .u64 0, .int .u64 0, .int .u64 0, .int .u64 0]) ?_ 6 _ rfl; (with_reducible repeat (first | refine blk_drewN ?_ _ | refine blk_drew ?_ | refine blk_alloc ?_ _)); refine blk_put (cs := #[.int .i64 t480, .int .u64 t481, .string t482, .int .i64 t483, .int .u64 t484, .int .u64 0, .int .u64 0, .int .u64 0, .int .u64 0, .int .u64 0, .int .u64 0]) ?_ 5 _ rfl; (with_reducible repeat (first | refine blk_drewN ?_ _ | refine blk_drew ?_ | refine blk_alloc ?_ _)); refine blk_put (cs := #[.int .i64 t480, .int .u64 t481, .string t482, .int .i64 t483, .int .u64 0, .int .u64 0, .int .u64 0, .int .u64 0, .int .u64 0, .int .u64 0, .int .u64 0]) ?_ 4 _ rfl; (with_reducible repeat (first | refine blk_drewN ?_ _ | refine blk_drew ?_ | refine blk_alloc ?_ _)); refine blk_put (cs := #[.int .i64 t480, .int .u64 t481, .string t482, .int .i64 0, .int .u64 0, .int .u64 0, .int .u64 0, .int .u64 0, .int .u64 0, .int .u64 0, .int .u64 0]) ?_ 3 _ rfl; (with_reducible repeat (first | refine blk_drewN ?_ _ | refine blk_drew ?_ | refine blk_alloc ?_ _)); refine blk_put (cs := #[.int .i64 t480, .int .u64 t481, .string (⟨#[]⟩ : ByteArray), .int .i64 0, .int .u64 0, .int .u64 0, .int .u64 0, .int .u64 0, .int .u64 0, .int .u64 0, .int .u64 0]) ?_ 2 _ rfl; (with_reducible repeat (first | refine blk_drewN ?_ _ | refine blk_drew ?_ | refine blk_alloc ?_ _)); refine blk_put (cs := #[.int .i64 t480, .int .u64 0, .string (⟨#[]⟩ : ByteArray), .int .i64 0, .int .u64 0, .int .u64 0, .int .u64 0, .int .u64 0, .int .u64 0, .int .u64 0, .int .u64 0]) ?_ 1 _ rfl; (with_reducible repeat (first | refine blk_drewN ?_ _ | refine blk_drew ?_ | refine blk_alloc ?_ _)); refine blk_put (cs := #[.int .i64 0, .int .u64 0, .string (⟨#[]⟩ : ByteArray), .int .i64 0, .int .u64 0, .int .u64 0, .int .u64 0, .int .u64 0, .int .u64 0, .int .u64 0, .int .u64 0]) ?_ 0 _ rfl; (with_reducible repeat (first | refine blk_drewN ?_ _ | refine blk_drew ?_ | refine blk_alloc ?_ _)); exact BK492.out⟩, ⟨bw HB⟩⟩
                              · rw [if_neg c36] at H
                                have c36b0 : (t491 == 2) = false := beq_eq_false_iff_ne.mpr c36
                                have c36b1 : (t491 != 2) = true := bne_iff_ne.mpr c36
                                (first | rw [c36b0] | (simp only [i64_w, i32_w]; rw [c36b0]) | skip)
                                have H' := Aside0.mk H
                                clear H
                                go_wp2_with (first | ((with_reducible refine gate_dst (N := 51) rfl ?_); (try (refine gate_guard (by rfl) ?_; dsimp only)); refine ld_err 2 1 (HERR.out.below (bw HB)) ?_ rfl rfl (by decide) (by have := Errs.five; omega) rfl) | ((with_reducible refine gate_dst (N := 52) rfl ?_); (try (refine gate_guard (by rfl) ?_; dsimp only)); refine ne_err t491 2 (b := (t491 != 2)) (HERR.out.below (bw HB)) ?_ rfl (of_decide_eq_true (by first | (with_reducible assumption) | assumption)) (Int.le_trans (of_decide_eq_true (by first | (with_reducible assumption) | assumption) : t491 ≤ 5) Errs.five) (by decide) (by have := Errs.five; omega)))
                                go_meet
                                case rel => exact ⟨_, (true), rs, H', ⟨by have := HJ4.out; have := HJ12.out; first | omega | exact Nat.le_refl _⟩, ⟨by (with_reducible repeat (first | apply Kd.R_alloc | apply Kd.R_drewN | apply Kd.R_drew)); exact Kd.R_mono (Kd.R_far (p := ⟨gb492, 10, none⟩) (Kd.R_far (p := ⟨gb492, 9, none⟩) (Kd.R_far (p := ⟨gb492, 8, none⟩) (Kd.R_far (p := ⟨gb492, 7, none⟩) (Kd.R_far (p := ⟨gb492, 6, none⟩) (Kd.R_far (p := ⟨gb492, 5, none⟩) (Kd.R_far (p := ⟨gb492, 4, none⟩) (Kd.R_far (p := ⟨gb492, 3, none⟩) (Kd.R_far (p := ⟨gb492, 2, none⟩) (Kd.R_far (p := ⟨gb492, 1, none⟩) (Kd.R_far (p := ⟨gb492, 0, none⟩) (Kd.R_types HO_8.out BK492.out (by decide)) (fun _ hk => hk.2) (.int .i64 t480)) (fun _ hk => hk.2) (.int .u64 t481)) (fun _ hk => hk.2) (.string t482)) (fun _ hk => hk.2) (.int .i64 t483)) (fun _ hk => hk.2) (.int .u64 t484)) (fun _ hk => hk.2) (.int .u64 t485)) (fun _ hk => hk.2) (.int .u64 t486)) (fun _ hk => hk.2) (.int .u64 t487)) (fun _ hk => hk.2) (.int .u64 t488)) (fun _ hk => hk.2) (.int .u64 t489)) (fun _ hk => hk.2) (.int .u64 t490)) (fun _ hk => trivial)⟩, ⟨bk BK464⟩, ⟨by (with_reducible repeat (first | refine blk_drewN ?_ _ | refine blk_drew ?_ | refine blk_alloc ?_ _)); refine blk_put (cs := #[.int .i64 t480, .int .u64 t481, .string t482, .int .i64 t483, .int .u64 t484, .int .u64 t485, .int .u64 t486, .int .u64 t487, .int .u64 t488, .int .u64 t489, .int .u64 0]) ?_ 10 _ rfl; (with_reducible repeat (first | refine blk_drewN ?_ _ | refine blk_drew ?_ | refine blk_alloc ?_ _)); refine blk_put (cs := #[.int .i64 t480, .int .u64 t481, .string t482, .int .i64 t483, .int .u64 t484, .int .u64 t485, .int .u64 t486, .int .u64 t487, .int .u64 t488, .int .u64 0, .int .u64 0]) ?_ 9 _ rfl; (with_reducible repeat (first | refine blk_drewN ?_ _ | refine blk_drew ?_ | refine blk_alloc ?_ _)); refine blk_put (cs := #[.int .i64 t480, .int .u64 t481, .string t482, .int .i64 t483, .int .u64 t484, .int .u64 t485, .int .u64 t486, .int .u64 t487, .int .u64 0, .int .u64 0, .int .u64 0]) ?_ 8 _ rfl; (with_reducible repeat (first | refine blk_drewN ?_ _ | refine blk_drew ?_ | refine blk_alloc ?_ _)); refine blk_put (cs := #[.int .i64 t480, .int .u64 t481, .string t482, .int .i64 t483, .int .u64 t484, .int .u64 t485, .int .u64 t486, .int .u64 0, .int .u64 0, .int .u64 0, .int .u64 0]) ?_ 7 _ rfl; (with_reducible repeat (first | refine blk_drewN ?_ _ | refine blk_drew ?_ | refine blk_alloc ?_ _)); refine blk_put (cs := #[.int .i64 t480, .int .u64 t481, .string t482, .int .i64 t483, .int .u64 t484, .int .u64 t485, .int .u64 0, .int .u64 0, .int .u64 0, .int .u64 0, .int .u64 0]) ?_ 6 _ rfl; (with_reducible repeat (first | refine blk_drewN ?_ _ | refine blk_drew ?_ | refine blk_alloc ?_ _)); refine blk_put (cs := #[.int .i64 t480, .int .u64 t481, .string t482, .int .i64 t483, .int .u64 t484, .int .u64 0, .int .u64 0, .int .u64 0, .int .u64 0, .int .u64 0, .int .u64 0]) ?_ 5 _ rfl; (with_reducible repeat (first | refine blk_drewN ?_ _ | refine blk_drew ?_ | refine blk_alloc ?_ _)); refine blk_put (cs := #[.int .i64 t480, .int .u64 t481, .string t482, .int .i64 t483, .int .u64 0, .int .u64 0, .int .u64 0, .int .u64 0, .int .u64 0, .int .u64 0, .int .u64 0]) ?_ 4 _ rfl; (with_reducible repeat (first | refine blk_drewN ?_ _ | refine blk_drew ?_ | refine blk_alloc ?_ _)); refine blk_put (cs := #[.int .i64 t480, .int .u64 t481, .string t482, .int .i64 0, .int .u64 0, .int .u64 0, .int .u64 0, .int .u64 0, .int .u64 0, .int .u64 0, .int .u64 0]) ?_ 3 _ rfl; (with_reducible repeat (first | refine blk_drewN ?_ _ | refine blk_drew ?_ | refine blk_alloc ?_ _)); refine blk_put (cs := #[.int .i64 t480, .int .u64 t481, .string (⟨#[]⟩ : ByteArray), .int .i64 0, .int .u64 0, .int .u64 0, .int .u64 0, .int .u64 0, .int .u64 0, .int .u64 0, .int .u64 0]) ?_ 2 _ rfl; (with_reducible repeat (first | refine blk_drewN ?_ _ | refine blk_drew ?_ | refine blk_alloc ?_ _)); refine blk_put (cs := #[.int .i64 t480, .int .u64 0, .string (⟨#[]⟩ : ByteArray), .int .i64 0, .int .u64 0, .int .u64 0, .int .u64 0, .int .u64 0, .int .u64 0, .int .u64 0, .int .u64 0]) ?_ 1 _ rfl; (with_reducible repeat (first | refine blk_drewN ?_ _ | refine blk_drew ?_ | refine blk_alloc ?_ _)); refine blk_put (cs := #[.int .i64 0, .int .u64 0, .string (⟨#[]⟩ : ByteArray), .int .i64 0, .int .u64 0, .int .u64 0, .int .u64 0, .int .u64 0, .int .u64 0, .int .u64 0, .int .u64 0]) ?_ 0 _ rfl; (with_reducible repeat (first | refine blk_drewN ?_ _ | refine blk_drew ?_ | refine blk_alloc ?_ _)); exact BK492.out⟩, ⟨bw HB⟩⟩
                            · rw [if_neg c35] at H
                              exact absurd H (by simp)
                          · rw [if_neg c34] at H
                            exact absurd H (by simp)
                        case rest =>
                          clear HC23
                          try clear c1
                          try clear c2
                          try clear p2
                          try clear q2
                          try clear c3
                          try clear c6
                          try clear c8
                          try clear c9
                          try clear c11
                          try clear c11b0
                          try clear c11b1
                          try clear c12
                          try clear c12b0
                          try clear c12b1
                          try clear c13
                          try clear c16
                          try clear c16b0
                          try clear c18
                          try clear c19
                          try clear c19b0
                          try clear c19b1
                          try clear c20
                          try clear c20b0
                          try clear c20b1
                          try clear c21
                          try clear q26
                          try clear c32
                          try clear c34
                          try clear c34b0
                          try clear c34b1
                          try clear c35
                          try clear c35b0
                          try clear c35b1
                          try clear c36
                          try clear c36b0
                          try clear c36b1
                          try clear c37
                          try clear hcz14_0
                          try clear hcz14_1
                          try clear hcz14_10
                          try clear hcz14_2
                          try clear hcz14_3
                          try clear hcz14_4
                          try clear hcz14_5
                          try clear hcz14_6
                          try clear hcz14_7
                          try clear hcz14_8
                          try clear hcz14_9
                          try clear hcz33_0
                          try clear hcz33_1
                          try clear hcz33_10
                          try clear hcz33_2
                          try clear hcz33_3
                          try clear hcz33_4
                          try clear hcz33_5
                          try clear hcz33_6
                          try clear hcz33_7
                          try clear hcz33_8
                          try clear hcz33_9
                          try clear hcz38_0
                          try clear hcz38_1
                          try clear hcz38_10
                          try clear hcz38_2
                          try clear hcz38_3
                          try clear hcz38_4
                          try clear hcz38_5
                          try clear hcz38_6
                          try clear hcz38_7
                          try clear hcz38_8
                          try clear hcz38_9
                          try clear hfz14_0
                          try clear hfz14_1
                          try clear hfz14_10
                          try clear hfz14_2
                          try clear hfz14_3
                          try clear hfz14_4
                          try clear hfz14_5
                          try clear hfz14_6
                          try clear hfz14_7
                          try clear hfz14_8
                          try clear hfz14_9
                          try clear hfz33_0
                          try clear hfz33_1
                          try clear hfz33_10
                          try clear hfz33_2
                          try clear hfz33_3
                          try clear hfz33_4
                          try clear hfz33_5
                          try clear hfz33_6
                          try clear hfz33_7
                          try clear hfz33_8
                          try clear hfz33_9
                          try clear hfz38_0
                          try clear hfz38_1
                          try clear hfz38_10
                          try clear hfz38_2
                          try clear hfz38_3
                          try clear hfz38_4
                          try clear hfz38_5
                          try clear hfz38_6
                          try clear hfz38_7
                          try clear hfz38_8
                          try clear hfz38_9
                          try clear p2
                          try clear q26
                          obtain ⟨kq, x57_22, rfl, HA, HJ22, HO_8, BK464, BK492, HB⟩ := hcut
                          cases kq with
                          | zero => exact absurd HA.out (by simp [turnstilelaw11_RecordCuts.j2])
                          | succ kj22 =>
                            have H := HA.out
                            clear HA
                            simp only [turnstilelaw11_RecordCuts.j2] at H
                            by_cases c39 : x57_22 = true
                            · subst c39
                              have H1 : (some false) = some r := by rw [if_pos rfl] at H; exact H
                              clear H
                              have H := H1
                              clear H1
                              obtain rfl := Option.some.inj H
                              go_wp2
                              go_ret
                              exact ⟨re, bw HB⟩
                            · replace c39 := Bool.eq_false_iff.mpr c39
                              subst c39
                              have H1 : (if (l2.length : Int) = 0 then (some true) else ((some (([] : List Int) : List Int)).bind fun y493 => (if y493.length + t466.length < 140737488355328 then ((some (y493 ++ t466 : List Int)).bind fun y496 => (if y496.length + l2.length < 140737488355328 then ((record_Decode.f kj22 (y496 ++ l2)).bind fun bt502 => (if 0 ≤ bt502.2.2.2.2.2.2.2.2.2.2.2 then (if bt502.2.2.2.2.2.2.2.2.2.2.2 ≤ 5 then (if bt502.2.2.2.2.2.2.2.2.2.2.2 = 3 then (some (bt502.1 == 0 && (bt502.2.1 == 0 && (bt502.2.2.1.toList == ([] : List UInt8) && ((bt502.2.2.2.1 == 0 && (bt502.2.2.2.2.1 == 0 && (bt502.2.2.2.2.2.1 == 0 && (bt502.2.2.2.2.2.2.1 == 0 && (bt502.2.2.2.2.2.2.2.1 == 0))))) && ((bt502.2.2.2.2.2.2.2.2.1 == 0 && (bt502.2.2.2.2.2.2.2.2.2.1 == 0 && (bt502.2.2.2.2.2.2.2.2.2.2.1 == 0))))))))) else (some false)) else (none)) else (none))) else (none))) else (none)))) = some r := by rw [if_neg (show ¬ (false = true) by decide)] at H; exact H
                              clear H
                              have H := H1
                              clear H1
                              by_cases c40 : (l2.length : Int) = 0
                              · rw [if_pos c40] at H
                                have c40b0 : ((l2.length : Int) == 0) = true := beq_iff_eq.mpr c40
                                have c40b1 : ((l2.length : Int) != 0) = false := bne_eq_false_iff_eq.mpr c40
                                clear c40
                                obtain rfl := Option.some.inj H
                                go_wp2
                                go_ret
                                exact ⟨re, bw HB⟩
                              · rw [if_neg c40] at H
                                have c40b0 : ((l2.length : Int) == 0) = false := beq_eq_false_iff_ne.mpr c40
                                have c40b1 : ((l2.length : Int) != 0) = true := bne_iff_ne.mpr c40
                                have c40b2 : ¬ (l2 = []) := fun h_ => c40 (by rw [h_]; rfl)
                                obtain ⟨y493, hy493⟩ : ∃ y_ : List Int, y_ = (([] : List Int)) := ⟨_, rfl⟩
                                replace H : (if y493.length + t466.length < 140737488355328 then ((some (y493 ++ t466 : List Int)).bind fun y496 => (if y496.length + l2.length < 140737488355328 then ((record_Decode.f kj22 (y496 ++ l2)).bind fun bt502 => (if 0 ≤ bt502.2.2.2.2.2.2.2.2.2.2.2 then (if bt502.2.2.2.2.2.2.2.2.2.2.2 ≤ 5 then (if bt502.2.2.2.2.2.2.2.2.2.2.2 = 3 then (some (bt502.1 == 0 && (bt502.2.1 == 0 && (bt502.2.2.1.toList == ([] : List UInt8) && ((bt502.2.2.2.1 == 0 && (bt502.2.2.2.2.1 == 0 && (bt502.2.2.2.2.2.1 == 0 && (bt502.2.2.2.2.2.2.1 == 0 && (bt502.2.2.2.2.2.2.2.1 == 0))))) && ((bt502.2.2.2.2.2.2.2.2.1 == 0 && (bt502.2.2.2.2.2.2.2.2.2.1 == 0 && (bt502.2.2.2.2.2.2.2.2.2.2.1 == 0))))))))) else (some false)) else (none)) else (none))) else (none))) else (none)) = some r := by first | (rw [hy493]; with_reducible exact H) | (have H2_ := (Option.bind_some _ _).symm.trans H; rw [hy493]; with_reducible exact H2_) | (have H2_ := (Option.bind_some _ _).symm.trans H; with_reducible exact H2_) | with_reducible exact H | (rw [hy493]; exact H) | exact H
                                have Ny493 := Aside0.mk hy493
                                clear hy493
                                by_cases c41 : y493.length + t466.length < 140737488355328
                                · rw [if_pos c41] at H
                                  have LMc41 := Aside0.mk c41
                                  clear c41
                                  obtain ⟨y496, hy496⟩ : ∃ y_ : List Int, y_ = (y493 ++ t466) := ⟨_, rfl⟩
                                  replace H : (if y496.length + l2.length < 140737488355328 then ((record_Decode.f kj22 (y496 ++ l2)).bind fun bt502 => (if 0 ≤ bt502.2.2.2.2.2.2.2.2.2.2.2 then (if bt502.2.2.2.2.2.2.2.2.2.2.2 ≤ 5 then (if bt502.2.2.2.2.2.2.2.2.2.2.2 = 3 then (some (bt502.1 == 0 && (bt502.2.1 == 0 && (bt502.2.2.1.toList == ([] : List UInt8) && ((bt502.2.2.2.1 == 0 && (bt502.2.2.2.2.1 == 0 && (bt502.2.2.2.2.2.1 == 0 && (bt502.2.2.2.2.2.2.1 == 0 && (bt502.2.2.2.2.2.2.2.1 == 0))))) && ((bt502.2.2.2.2.2.2.2.2.1 == 0 && (bt502.2.2.2.2.2.2.2.2.2.1 == 0 && (bt502.2.2.2.2.2.2.2.2.2.2.1 == 0))))))))) else (some false)) else (none)) else (none))) else (none)) = some r := by first | (rw [hy496]; with_reducible exact H) | (have H2_ := (Option.bind_some _ _).symm.trans H; rw [hy496]; with_reducible exact H2_) | (have H2_ := (Option.bind_some _ _).symm.trans H; with_reducible exact H2_) | with_reducible exact H | (rw [hy496]; exact H) | exact H
                                  have Ny496 := Aside0.mk hy496
                                  clear hy496
                                  by_cases c42 : y496.length + l2.length < 140737488355328
                                  · rw [if_pos c42] at H
                                    have LMc42 := Aside0.mk c42
                                    clear c42
                                    obtain ⟨y499, hy499⟩ : ∃ y_ : List Int, y_ = (y496 ++ l2) := ⟨_, rfl⟩
                                    replace H : ((record_Decode.f kj22 y499).bind fun bt502 => (if 0 ≤ bt502.2.2.2.2.2.2.2.2.2.2.2 then (if bt502.2.2.2.2.2.2.2.2.2.2.2 ≤ 5 then (if bt502.2.2.2.2.2.2.2.2.2.2.2 = 3 then (some (bt502.1 == 0 && (bt502.2.1 == 0 && (bt502.2.2.1.toList == ([] : List UInt8) && ((bt502.2.2.2.1 == 0 && (bt502.2.2.2.2.1 == 0 && (bt502.2.2.2.2.2.1 == 0 && (bt502.2.2.2.2.2.2.1 == 0 && (bt502.2.2.2.2.2.2.2.1 == 0))))) && ((bt502.2.2.2.2.2.2.2.2.1 == 0 && (bt502.2.2.2.2.2.2.2.2.2.1 == 0 && (bt502.2.2.2.2.2.2.2.2.2.2.1 == 0))))))))) else (some false)) else (none)) else (none))) = some r := by first | (rw [hy499]; with_reducible exact H) | (have H2_ := (Option.bind_some _ _).symm.trans H; rw [hy499]; with_reducible exact H2_) | (have H2_ := (Option.bind_some _ _).symm.trans H; with_reducible exact H2_) | with_reducible exact H | (rw [hy499]; exact H) | exact H
                                    have Ny499 := Aside0.mk hy499
                                    clear hy499
                                    replace H := Option.bind_eq_some_iff.mp H
                                    obtain ⟨⟨t502, t503, t504, t505, t506, t507, t508, t509, t510, t511, t512, t513⟩, A430, H⟩ := H
                                    replace H : (if 0 ≤ t513 then (if t513 ≤ 5 then (if t513 = 3 then (some (t502 == 0 && (t503 == 0 && (t504.toList == ([] : List UInt8) && ((t505 == 0 && (t506 == 0 && (t507 == 0 && (t508 == 0 && (t509 == 0))))) && ((t510 == 0 && (t511 == 0 && (t512 == 0))))))))) else (some false)) else (none)) else (none)) = some r := H
                                    have A43 := Aside0.mk A430
                                    clear A430
                                    by_cases c44 : 0 ≤ t513
                                    · rw [if_pos c44] at H
                                      have c44b0 := eq_true c44
                                      have c44b1 : decide (0 ≤ t513) = true := decide_eq_true c44
                                      clear c44
                                      by_cases c45 : t513 ≤ 5
                                      · rw [if_pos c45] at H
                                        have c45b0 := eq_true c45
                                        have c45b1 : decide (t513 ≤ 5) = true := decide_eq_true c45
                                        clear c45
                                        by_cases c46 : t513 = 3
                                        · rw [if_pos c46] at H
                                          have c46b0 : (t513 == 3) = true := beq_iff_eq.mpr c46
                                          have c46b1 : (t513 != 3) = false := bne_eq_false_iff_eq.mpr c46
                                          clear c46
                                          obtain rfl := Option.some.inj H
                                          go_wp2_with (first | ((with_reducible refine gate_dst (N := 62) rfl ?_); (try (refine gate_guard (by rfl) ?_; dsimp only)); refine Kd.R_lit (Kd.int .u8) _ 5 ?hg (N := 62) ?hd (xs := ([] : List Int)) (inner := []) (ok := fun _ => True) (okp := fun _ => True) ?hr ?hp (fun _ hk => hk) trivial (Below.refl _ _) (Nat.le_refl _) (by simp) ?_; (case hd => rfl); (case hg => rfl); (case hr => first | (go_simp; done) | (go_simp; rfl)); (case hp => exact (Reps.none _ _)); intro v494 w47 ho48 hb hg_ hnew_; clear hg_ hnew_; (first | rw [← Ny493.out] at ho48 | (simp only [Int.reduceToNat] at ho48; rw [← Ny493.out] at ho48)); have n0_ := Aside0.mk (Kd.R_elder' (by (with_reducible repeat (first | apply Kd.R_alloc | apply Kd.R_drewN | apply Kd.R_drew)); exact HO_8.out) (Kd.R_base ho48) hb); have n1_ := Aside0.mk (Kd.R_lower (Kd.R_new' ho48 (Kd.R_lt (by (with_reducible repeat (first | apply Kd.R_alloc | apply Kd.R_drewN | apply Kd.R_drew)); exact HO_8.out))) (below_size (bw HB))); have n2_ := bb BK464 hb; have n3_ := bb BK492 hb; have n4_ := bs HB hb; clear HO_8; clear BK464; clear BK492; clear HB; have HO_8 := n0_; have HO495 := n1_; have BK464 := n2_; have BK492 := n3_; have HB := n4_; clear n0_ n1_ n2_ n3_ n4_; clear hb ho48) | ((with_reducible refine gate_builtin (b := .append) (xs := #[.tmp 62, .tmp 63]) rfl ?_); (try (refine gate_guard (by rfl) ?_; dsimp only)); at_builtin; refine Kd.R_append_rows (Kd.int .u8) (w0 := w) w.heap.size rfl (.tmp 62) (.tmp 63) 33 5 (.int .u8 0) 1 rfl Tryd.underlying33 info5 rfl (by decide) (by omega) v494 y493 t466 _ _ _ (fun k_ => some k_ ≠ (.slice Ao27 t466.length co27 : Value).ownBlock) (fun _ => False) rfl rfl ?aO ?aR (fun _ _ h => h) (fun _ h => h.elim) ?aF ?aB ?aS ?aL ?_; (case aR => repeat (first | exact (Kd.R_reads' HO_8.out).2.2 | (with_reducible refine Kd.C_alloc ?_ _) | (with_reducible refine Kd.C_drewN ?_ _) | (with_reducible refine Kd.C_drew ?_))); (case aB => exact (bw HB)); (case aF => exact (fun k_ hk => Kd.fresh' (Kd.R_lt (by (with_reducible repeat (first | apply Kd.R_alloc | apply Kd.R_drewN | apply Kd.R_drew)); exact HO_8.out)) k_ hk)); (case aO => exact (by (with_reducible repeat (first | apply Kd.R_alloc | apply Kd.R_drewN | apply Kd.R_drew)); exact Kd.R_mono HO495.out (fun _ hk => hk.2))); (case aS => exact (below_size (bw HB))); (case aL => have := LMc41.out; omega); intro v497 w49 ho hb hg hat; rw [← Ny496.out] at ho; have n0_ := Aside0.mk (Kd.R_after (ok := (fun _ => True)) (by (with_reducible repeat (first | apply Kd.R_alloc | apply Kd.R_drewN | apply Kd.R_drew)); exact HO_8.out) hg hat); have n1_ := Aside0.mk (blk_grown (g := gb464) (o := .cells #[.int .i64 a0_0, .int .u64 a0_1, .string a0_2, .int .i64 a0_3, .int .u64 a0_4, .int .u64 a0_5, .int .u64 a0_6, .int .u64 a0_7, .int .u64 a0_8, .int .u64 a0_9, .int .u64 a0_10] 32 (0, 0)) (bk BK464) hg (Kd.R_ne HO495.out BK464.out (by decide))); have n2_ := Aside0.mk (blk_grown (g := gb492) (o := .cells #[.int .i64 t480, .int .u64 t481, .string t482, .int .i64 t483, .int .u64 t484, .int .u64 t485, .int .u64 t486, .int .u64 t487, .int .u64 t488, .int .u64 t489, .int .u64 t490] 32 (0, 0)) (bk BK492) hg (Kd.R_ne HO495.out BK492.out (by decide))); have n3_ := Aside0.mk (hb); have n4_ := Aside0.mk (ho); clear HO_8; clear BK464; clear BK492; clear HB; clear HO495; have HO_8 := n0_; have BK464 := n1_; have BK492 := n2_; have HB := n3_; have HO498 := n4_; clear n0_ n1_ n2_ n3_ n4_; clear ho hb hg hat) | ((with_reducible refine gate_builtin (b := .append) (xs := #[.tmp 64, .tmp 65]) rfl ?_); (try (refine gate_guard (by rfl) ?_; dsimp only)); at_builtin; refine Kd.R_append_rows (Kd.int .u8) (w0 := w) w.heap.size rfl (.tmp 64) (.tmp 65) 33 5 (.int .u8 0) 1 rfl Tryd.underlying33 info5 rfl (by decide) (by omega) v497 y496 l2 _ _ _ (fun k_ => some k_ ≠ (.slice Ao27 t466.length co27 : Value).ownBlock) (fun _ => False) rfl rfl ?aO ?aR (fun _ _ h => h) (fun _ h => h.elim) ?aF ?aB ?aS ?aL ?_; (case aR => repeat (first | exact (Kd.C_below HR2.out HB.out) | (with_reducible refine Kd.C_alloc ?_ _) | (with_reducible refine Kd.C_drewN ?_ _) | (with_reducible refine Kd.C_drew ?_))); (case aB => exact (bw HB)); (case aF => exact (fun k_ hk => Kd.fresh' (Kd.R_lt (by (with_reducible repeat (first | apply Kd.R_alloc | apply Kd.R_drewN | apply Kd.R_drew)); exact HO_8.out)) k_ hk)); (case aO => exact (by (with_reducible repeat (first | apply Kd.R_alloc | apply Kd.R_drewN | apply Kd.R_drew)); exact HO498.out)); (case aS => exact (below_size (bw HB))); (case aL => have := LMc42.out; omega); intro v500 w50 ho hb hg hat; rw [← Ny499.out] at ho; have n0_ := Aside0.mk (Kd.R_after (ok := (fun _ => True)) (by (with_reducible repeat (first | apply Kd.R_alloc | apply Kd.R_drewN | apply Kd.R_drew)); exact HO_8.out) hg hat); have n1_ := Aside0.mk (blk_grown (g := gb464) (o := .cells #[.int .i64 a0_0, .int .u64 a0_1, .string a0_2, .int .i64 a0_3, .int .u64 a0_4, .int .u64 a0_5, .int .u64 a0_6, .int .u64 a0_7, .int .u64 a0_8, .int .u64 a0_9, .int .u64 a0_10] 32 (0, 0)) (bk BK464) hg (Kd.R_ne HO498.out BK464.out (by decide))); have n2_ := Aside0.mk (blk_grown (g := gb492) (o := .cells #[.int .i64 t480, .int .u64 t481, .string t482, .int .i64 t483, .int .u64 t484, .int .u64 t485, .int .u64 t486, .int .u64 t487, .int .u64 t488, .int .u64 t489, .int .u64 t490] 32 (0, 0)) (bk BK492) hg (Kd.R_ne HO498.out BK492.out (by decide))); have n3_ := Aside0.mk (hb); have n4_ := Aside0.mk (ho); clear HO_8; clear BK464; clear BK492; clear HB; clear HO498; have HO_8 := n0_; have BK464 := n1_; have BK492 := n2_; have HB := n3_; have HO501 := n4_; clear n0_ n1_ n2_ n3_ n4_; clear ho hb hg hat; obtain ⟨Ao51, co51, eo51⟩ := Kd.R_slice HO501.out; subst eo51) | ((with_reducible refine gate_callee (f := 18) rfl ?_); refine gl (some 67) Tryd.func18 #[.slice Ao51 y499.length co51] ?_; (with_reducible refine (record_Decode.calls kj22 _ _ y499 t502 t503 t504 t505 t506 t507 t508 t509 t510 t511 t512 t513 _ ?side3 ?side1 ?side2 A43.out).mono ?_); (case side1 => repeat (first | exact (Kd.R_reads' HO501.out).2.2 | (with_reducible refine Kd.C_alloc ?_ _) | (with_reducible refine Kd.C_drewN ?_ _) | (with_reducible refine Kd.C_drew ?_))); (case side2 => exact (Kd.R_reads' HO501.out).2.1); (case side3 => exact (HERR.out.below (bw HB))); rintro e w52 ⟨rfl, hb⟩; refine ⟨_, rfl, ?_⟩; have n0_ := Aside0.mk (Kd.R_below (by (with_reducible repeat (first | apply Kd.R_alloc | apply Kd.R_drewN | apply Kd.R_drew)); exact HO_8.out) hb); have n1_ := Aside0.mk (Kd.R_below (by (with_reducible repeat (first | apply Kd.R_alloc | apply Kd.R_drewN | apply Kd.R_drew)); exact HO501.out) hb); have n2_ := bb BK464 hb; have n3_ := bb BK492 hb; have n4_ := bs HB hb; clear HO_8; clear HO501; clear BK464; clear BK492; clear HB; have HO_8 := n0_; have HO501 := n1_; have BK464 := n2_; have BK492 := n3_; have HB := n4_; clear n0_ n1_ n2_ n3_ n4_; (try clear hb); (try clear hb2); (try clear hk); (try clear hi)) | ((with_reducible refine gate_dst (N := 12) rfl ?_); (try (refine gate_guard (by rfl) ?_; dsimp only)); refine bx 12 #[.int .i64 0, .int .u64 0, .string (⟨#[]⟩ : ByteArray), .int .i64 0, .int .u64 0, .int .u64 0, .int .u64 0, .int .u64 0, .int .u64 0, .int .u64 0, .int .u64 0] 32 ?_; intro gb514 hg w53 hbox hb; have n0_ := Aside0.mk (Kd.R_below (by (with_reducible repeat (first | apply Kd.R_alloc | apply Kd.R_drewN | apply Kd.R_drew)); exact HO_8.out) hb); have n1_ := Aside0.mk (Kd.R_below (by (with_reducible repeat (first | apply Kd.R_alloc | apply Kd.R_drewN | apply Kd.R_drew)); exact HO501.out) hb); have n2_ := bb BK464 hb; have n3_ := bb BK492 hb; have n4_ := bs HB hb; have n5_ := Aside0.mk (hbox); have n6_ := sz HB hg; have n7_ := sz HB hg; have n8_ := nl BK464 hg; have n9_ := nr BK464 hg; have n10_ := nl BK492 hg; have n11_ := nr BK492 hg; clear HO_8; clear HO501; clear BK464; clear BK492; clear HB; have HO_8 := n0_; have HO501 := n1_; have BK464 := n2_; have BK492 := n3_; have HB := n4_; have BK514 := n5_; have GW514 := n6_; have GE514 := n7_; have NB464_514 := n8_; have NB514_464 := n9_; have NB492_514 := n10_; have NB514_492 := n11_; clear n0_ n1_ n2_ n3_ n4_ n5_ n6_ n7_ n8_ n9_ n10_ n11_; clear hb hbox hg; have hnb54 := NB514_464.out; have hnc54 := NB464_514.out; have hnb55 := NB514_492.out; have hnc55 := NB492_514.out; obtain ⟨hcz56_0, hcz56_1, hcz56_2, hcz56_3, hcz56_4, hcz56_5, hcz56_6, hcz56_7, hcz56_8, hcz56_9, hcz56_10, hfz56_0, hfz56_1, hfz56_2, hfz56_3, hfz56_4, hfz56_5, hfz56_6, hfz56_7, hfz56_8, hfz56_9, hfz56_10⟩ := bc11 BK514) | ((with_reducible refine gate_dst (N := 71) rfl ?_); (try (refine gate_guard (by rfl) ?_; dsimp only)); refine ld_err 3 2 (HERR.out.below (bw HB)) ?_ rfl rfl (by decide) (by have := Errs.five; omega) rfl) | ((with_reducible refine gate_dst (N := 72) rfl ?_); (try (refine gate_guard (by rfl) ?_; dsimp only)); refine eq_err t513 3 (b := (t513 == 3)) (HERR.out.below (bw HB)) ?_ rfl (of_decide_eq_true (by first | (with_reducible assumption) | assumption)) (Int.le_trans (of_decide_eq_true (by first | (with_reducible assumption) | assumption) : t513 ≤ 5) Errs.five) (by decide) (by have := Errs.five; omega)))
                                          go_ret
                                          exact ⟨re, bw HB⟩
                                        · rw [if_neg c46] at H
                                          have c46b0 : (t513 == 3) = false := beq_eq_false_iff_ne.mpr c46
                                          have c46b1 : (t513 != 3) = true := bne_iff_ne.mpr c46
                                          obtain rfl := Option.some.inj H
                                          go_wp2_with (first | ((with_reducible refine gate_dst (N := 62) rfl ?_); (try (refine gate_guard (by rfl) ?_; dsimp only)); refine Kd.R_lit (Kd.int .u8) _ 5 ?hg (N := 62) ?hd (xs := ([] : List Int)) (inner := []) (ok := fun _ => True) (okp := fun _ => True) ?hr ?hp (fun _ hk => hk) trivial (Below.refl _ _) (Nat.le_refl _) (by simp) ?_; (case hd => rfl); (case hg => rfl); (case hr => first | (go_simp; done) | (go_simp; rfl)); (case hp => exact (Reps.none _ _)); intro v494 w57 ho58 hb hg_ hnew_; clear hg_ hnew_; (first | rw [← Ny493.out] at ho58 | (simp only [Int.reduceToNat] at ho58; rw [← Ny493.out] at ho58)); have n0_ := Aside0.mk (Kd.R_elder' (by (with_reducible repeat (first | apply Kd.R_alloc | apply Kd.R_drewN | apply Kd.R_drew)); exact HO_8.out) (Kd.R_base ho58) hb); have n1_ := Aside0.mk (Kd.R_lower (Kd.R_new' ho58 (Kd.R_lt (by (with_reducible repeat (first | apply Kd.R_alloc | apply Kd.R_drewN | apply Kd.R_drew)); exact HO_8.out))) (below_size (bw HB))); have n2_ := bb BK464 hb; have n3_ := bb BK492 hb; have n4_ := bs HB hb; clear HO_8; clear BK464; clear BK492; clear HB; have HO_8 := n0_; have HO495 := n1_; have BK464 := n2_; have BK492 := n3_; have HB := n4_; clear n0_ n1_ n2_ n3_ n4_; clear hb ho58) | ((with_reducible refine gate_builtin (b := .append) (xs := #[.tmp 62, .tmp 63]) rfl ?_); (try (refine gate_guard (by rfl) ?_; dsimp only)); at_builtin; refine Kd.R_append_rows (Kd.int .u8) (w0 := w) w.heap.size rfl (.tmp 62) (.tmp 63) 33 5 (.int .u8 0) 1 rfl Tryd.underlying33 info5 rfl (by decide) (by omega) v494 y493 t466 _ _ _ (fun k_ => some k_ ≠ (.slice Ao27 t466.length co27 : Value).ownBlock) (fun _ => False) rfl rfl ?aO ?aR (fun _ _ h => h) (fun _ h => h.elim) ?aF ?aB ?aS ?aL ?_; (case aR => repeat (first | exact (Kd.R_reads' HO_8.out).2.2 | (with_reducible refine Kd.C_alloc ?_ _) | (with_reducible refine Kd.C_drewN ?_ _) | (with_reducible refine Kd.C_drew ?_))); (case aB => exact (bw HB)); (case aF => exact (fun k_ hk => Kd.fresh' (Kd.R_lt (by (with_reducible repeat (first | apply Kd.R_alloc | apply Kd.R_drewN | apply Kd.R_drew)); exact HO_8.out)) k_ hk)); (case aO => exact (by (with_reducible repeat (first | apply Kd.R_alloc | apply Kd.R_drewN | apply Kd.R_drew)); exact Kd.R_mono HO495.out (fun _ hk => hk.2))); (case aS => exact (below_size (bw HB))); (case aL => have := LMc41.out; omega); intro v497 w59 ho hb hg hat; rw [← Ny496.out] at ho; have n0_ := Aside0.mk (Kd.R_after (ok := (fun _ => True)) (by (with_reducible repeat (first | apply Kd.R_alloc | apply Kd.R_drewN | apply Kd.R_drew)); exact HO_8.out) hg hat); have n1_ := Aside0.mk (blk_grown (g := gb464) (o := .cells #[.int .i64 a0_0, .int .u64 a0_1, .string a0_2, .int .i64 a0_3, .int .u64 a0_4, .int .u64 a0_5, .int .u64 a0_6, .int .u64 a0_7, .int .u64 a0_8, .int .u64 a0_9, .int .u64 a0_10] 32 (0, 0)) (bk BK464) hg (Kd.R_ne HO495.out BK464.out (by decide))); have n2_ := Aside0.mk (blk_grown (g := gb492) (o := .cells #[.int .i64 t480, .int .u64 t481, .string t482, .int .i64 t483, .int .u64 t484, .int .u64 t485, .int .u64 t486, .int .u64 t487, .int .u64 t488, .int .u64 t489, .int .u64 t490] 32 (0, 0)) (bk BK492) hg (Kd.R_ne HO495.out BK492.out (by decide))); have n3_ := Aside0.mk (hb); have n4_ := Aside0.mk (ho); clear HO_8; clear BK464; clear BK492; clear HB; clear HO495; have HO_8 := n0_; have BK464 := n1_; have BK492 := n2_; have HB := n3_; have HO498 := n4_; clear n0_ n1_ n2_ n3_ n4_; clear ho hb hg hat) | ((with_reducible refine gate_builtin (b := .append) (xs := #[.tmp 64, .tmp 65]) rfl ?_); (try (refine gate_guard (by rfl) ?_; dsimp only)); at_builtin; refine Kd.R_append_rows (Kd.int .u8) (w0 := w) w.heap.size rfl (.tmp 64) (.tmp 65) 33 5 (.int .u8 0) 1 rfl Tryd.underlying33 info5 rfl (by decide) (by omega) v497 y496 l2 _ _ _ (fun k_ => some k_ ≠ (.slice Ao27 t466.length co27 : Value).ownBlock) (fun _ => False) rfl rfl ?aO ?aR (fun _ _ h => h) (fun _ h => h.elim) ?aF ?aB ?aS ?aL ?_; (case aR => repeat (first | exact (Kd.C_below HR2.out HB.out) | (with_reducible refine Kd.C_alloc ?_ _) | (with_reducible refine Kd.C_drewN ?_ _) | (with_reducible refine Kd.C_drew ?_))); (case aB => exact (bw HB)); (case aF => exact (fun k_ hk => Kd.fresh' (Kd.R_lt (by (with_reducible repeat (first | apply Kd.R_alloc | apply Kd.R_drewN | apply Kd.R_drew)); exact HO_8.out)) k_ hk)); (case aO => exact (by (with_reducible repeat (first | apply Kd.R_alloc | apply Kd.R_drewN | apply Kd.R_drew)); exact HO498.out)); (case aS => exact (below_size (bw HB))); (case aL => have := LMc42.out; omega); intro v500 w60 ho hb hg hat; rw [← Ny499.out] at ho; have n0_ := Aside0.mk (Kd.R_after (ok := (fun _ => True)) (by (with_reducible repeat (first | apply Kd.R_alloc | apply Kd.R_drewN | apply Kd.R_drew)); exact HO_8.out) hg hat); have n1_ := Aside0.mk (blk_grown (g := gb464) (o := .cells #[.int .i64 a0_0, .int .u64 a0_1, .string a0_2, .int .i64 a0_3, .int .u64 a0_4, .int .u64 a0_5, .int .u64 a0_6, .int .u64 a0_7, .int .u64 a0_8, .int .u64 a0_9, .int .u64 a0_10] 32 (0, 0)) (bk BK464) hg (Kd.R_ne HO498.out BK464.out (by decide))); have n2_ := Aside0.mk (blk_grown (g := gb492) (o := .cells #[.int .i64 t480, .int .u64 t481, .string t482, .int .i64 t483, .int .u64 t484, .int .u64 t485, .int .u64 t486, .int .u64 t487, .int .u64 t488, .int .u64 t489, .int .u64 t490] 32 (0, 0)) (bk BK492) hg (Kd.R_ne HO498.out BK492.out (by decide))); have n3_ := Aside0.mk (hb); have n4_ := Aside0.mk (ho); clear HO_8; clear BK464; clear BK492; clear HB; clear HO498; have HO_8 := n0_; have BK464 := n1_; have BK492 := n2_; have HB := n3_; have HO501 := n4_; clear n0_ n1_ n2_ n3_ n4_; clear ho hb hg hat; obtain ⟨Ao61, co61, eo61⟩ := Kd.R_slice HO501.out; subst eo61) | ((with_reducible refine gate_callee (f := 18) rfl ?_); refine gl (some 67) Tryd.func18 #[.slice Ao61 y499.length co61] ?_; (with_reducible refine (record_Decode.calls kj22 _ _ y499 t502 t503 t504 t505 t506 t507 t508 t509 t510 t511 t512 t513 _ ?side3 ?side1 ?side2 A43.out).mono ?_); (case side1 => repeat (first | exact (Kd.R_reads' HO501.out).2.2 | (with_reducible refine Kd.C_alloc ?_ _) | (with_reducible refine Kd.C_drewN ?_ _) | (with_reducible refine Kd.C_drew ?_))); (case side2 => exact (Kd.R_reads' HO501.out).2.1); (case side3 => exact (HERR.out.below (bw HB))); rintro e w62 ⟨rfl, hb⟩; refine ⟨_, rfl, ?_⟩; have n0_ := Aside0.mk (Kd.R_below (by (with_reducible repeat (first | apply Kd.R_alloc | apply Kd.R_drewN | apply Kd.R_drew)); exact HO_8.out) hb); have n1_ := Aside0.mk (Kd.R_below (by (with_reducible repeat (first | apply Kd.R_alloc | apply Kd.R_drewN | apply Kd.R_drew)); exact HO501.out) hb); have n2_ := bb BK464 hb; have n3_ := bb BK492 hb; have n4_ := bs HB hb; clear HO_8; clear HO501; clear BK464; clear BK492; clear HB; have HO_8 := n0_; have HO501 := n1_; have BK464 := n2_; have BK492 := n3_; have HB := n4_; clear n0_ n1_ n2_ n3_ n4_; (try clear hb); (try clear hb2); (try clear hk); (try clear hi)) | ((with_reducible refine gate_dst (N := 12) rfl ?_); (try (refine gate_guard (by rfl) ?_; dsimp only)); refine bx 12 #[.int .i64 0, .int .u64 0, .string (⟨#[]⟩ : ByteArray), .int .i64 0, .int .u64 0, .int .u64 0, .int .u64 0, .int .u64 0, .int .u64 0, .int .u64 0, .int .u64 0] 32 ?_; intro gb514 hg w63 hbox hb; have n0_ := Aside0.mk (Kd.R_below (by (with_reducible repeat (first | apply Kd.R_alloc | apply Kd.R_drewN | apply Kd.R_drew)); exact HO_8.out) hb); have n1_ := Aside0.mk (Kd.R_below (by (with_reducible repeat (first | apply Kd.R_alloc | apply Kd.R_drewN | apply Kd.R_drew)); exact HO501.out) hb); have n2_ := bb BK464 hb; have n3_ := bb BK492 hb; have n4_ := bs HB hb; have n5_ := Aside0.mk (hbox); have n6_ := sz HB hg; have n7_ := sz HB hg; have n8_ := nl BK464 hg; have n9_ := nr BK464 hg; have n10_ := nl BK492 hg; have n11_ := nr BK492 hg; clear HO_8; clear HO501; clear BK464; clear BK492; clear HB; have HO_8 := n0_; have HO501 := n1_; have BK464 := n2_; have BK492 := n3_; have HB := n4_; have BK514 := n5_; have GW514 := n6_; have GE514 := n7_; have NB464_514 := n8_; have NB514_464 := n9_; have NB492_514 := n10_; have NB514_492 := n11_; clear n0_ n1_ n2_ n3_ n4_ n5_ n6_ n7_ n8_ n9_ n10_ n11_; clear hb hbox hg; have hnb64 := NB514_464.out; have hnc64 := NB464_514.out; have hnb65 := NB514_492.out; have hnc65 := NB492_514.out; obtain ⟨hcz66_0, hcz66_1, hcz66_2, hcz66_3, hcz66_4, hcz66_5, hcz66_6, hcz66_7, hcz66_8, hcz66_9, hcz66_10, hfz66_0, hfz66_1, hfz66_2, hfz66_3, hfz66_4, hfz66_5, hfz66_6, hfz66_7, hfz66_8, hfz66_9, hfz66_10⟩ := bc11 BK514) | ((with_reducible refine gate_dst (N := 71) rfl ?_); (try (refine gate_guard (by rfl) ?_; dsimp only)); refine ld_err 3 2 (HERR.out.below (bw HB)) ?_ rfl rfl (by decide) (by have := Errs.five; omega) rfl) | ((with_reducible refine gate_dst (N := 72) rfl ?_); (try (refine gate_guard (by rfl) ?_; dsimp only)); refine eq_err t513 3 (b := (t513 == 3)) (HERR.out.below (bw HB)) ?_ rfl (of_decide_eq_true (by first | (with_reducible assumption) | assumption)) (Int.le_trans (of_decide_eq_true (by first | (with_reducible assumption) | assumption) : t513 ≤ 5) Errs.five) (by decide) (by have := Errs.five; omega)))
                                          go_ret
                                          exact ⟨re, bw HB⟩
                                      · rw [if_neg c45] at H
                                        exact absurd H (by simp)
                                    · rw [if_neg c44] at H
                                      exact absurd H (by simp)
                                  · rw [if_neg c42] at H
                                    exact absurd H (by simp)
                                · rw [if_neg c41] at H
                                  exact absurd H (by simp)
                      · rw [if_neg c21] at H
                        exact absurd H (by simp)
                    · rw [if_neg c20] at H
                      exact absurd H (by simp)
                  · rw [if_neg c19] at H
                    exact absurd H (by simp)
                · replace c18 := Bool.eq_false_iff.mpr c18
                  subst c18
                  have H1 : (if (l2.length : Int) = 0 then (some true) else ((some (([] : List Int) : List Int)).bind fun y515 => (if y515.length + t466.length < 140737488355328 then ((some (y515 ++ t466 : List Int)).bind fun y518 => (if y518.length + l2.length < 140737488355328 then ((record_Decode.f kj12 (y518 ++ l2)).bind fun bt524 => (if 0 ≤ bt524.2.2.2.2.2.2.2.2.2.2.2 then (if bt524.2.2.2.2.2.2.2.2.2.2.2 ≤ 5 then (if bt524.2.2.2.2.2.2.2.2.2.2.2 = 3 then (some (bt524.1 == 0 && (bt524.2.1 == 0 && (bt524.2.2.1.toList == ([] : List UInt8) && ((bt524.2.2.2.1 == 0 && (bt524.2.2.2.2.1 == 0 && (bt524.2.2.2.2.2.1 == 0 && (bt524.2.2.2.2.2.2.1 == 0 && (bt524.2.2.2.2.2.2.2.1 == 0))))) && ((bt524.2.2.2.2.2.2.2.2.1 == 0 && (bt524.2.2.2.2.2.2.2.2.2.1 == 0 && (bt524.2.2.2.2.2.2.2.2.2.2.1 == 0))))))))) else (some false)) else (none)) else (none))) else (none))) else (none)))) = some r := by rw [if_neg (show ¬ (false = true) by decide)] at H; exact H
                  clear H
                  have H := H1
                  clear H1
                  by_cases c67 : (l2.length : Int) = 0
                  · rw [if_pos c67] at H
                    have c67b0 : ((l2.length : Int) == 0) = true := beq_iff_eq.mpr c67
                    have c67b1 : ((l2.length : Int) != 0) = false := bne_eq_false_iff_eq.mpr c67
                    clear c67
                    obtain rfl := Option.some.inj H
                    go_wp2
                    go_ret
                    exact ⟨re, bw HB⟩
                  · rw [if_neg c67] at H
                    have c67b0 : ((l2.length : Int) == 0) = false := beq_eq_false_iff_ne.mpr c67
                    have c67b1 : ((l2.length : Int) != 0) = true := bne_iff_ne.mpr c67
                    have c67b2 : ¬ (l2 = []) := fun h_ => c67 (by rw [h_]; rfl)
                    obtain ⟨y515, hy515⟩ : ∃ y_ : List Int, y_ = (([] : List Int)) := ⟨_, rfl⟩
                    replace H : (if y515.length + t466.length < 140737488355328 then ((some (y515 ++ t466 : List Int)).bind fun y518 => (if y518.length + l2.length < 140737488355328 then ((record_Decode.f kj12 (y518 ++ l2)).bind fun bt524 => (if 0 ≤ bt524.2.2.2.2.2.2.2.2.2.2.2 then (if bt524.2.2.2.2.2.2.2.2.2.2.2 ≤ 5 then (if bt524.2.2.2.2.2.2.2.2.2.2.2 = 3 then (some (bt524.1 == 0 && (bt524.2.1 == 0 && (bt524.2.2.1.toList == ([] : List UInt8) && ((bt524.2.2.2.1 == 0 && (bt524.2.2.2.2.1 == 0 && (bt524.2.2.2.2.2.1 == 0 && (bt524.2.2.2.2.2.2.1 == 0 && (bt524.2.2.2.2.2.2.2.1 == 0))))) && ((bt524.2.2.2.2.2.2.2.2.1 == 0 && (bt524.2.2.2.2.2.2.2.2.2.1 == 0 && (bt524.2.2.2.2.2.2.2.2.2.2.1 == 0))))))))) else (some false)) else (none)) else (none))) else (none))) else (none)) = some r := by first | (rw [hy515]; with_reducible exact H) | (have H2_ := (Option.bind_some _ _).symm.trans H; rw [hy515]; with_reducible exact H2_) | (have H2_ := (Option.bind_some _ _).symm.trans H; with_reducible exact H2_) | with_reducible exact H | (rw [hy515]; exact H) | exact H
                    have Ny515 := Aside0.mk hy515
                    clear hy515
                    by_cases c68 : y515.length + t466.length < 140737488355328
                    · rw [if_pos c68] at H
                      have LMc68 := Aside0.mk c68
                      clear c68
                      obtain ⟨y518, hy518⟩ : ∃ y_ : List Int, y_ = (y515 ++ t466) := ⟨_, rfl⟩
                      replace H : (if y518.length + l2.length < 140737488355328 then ((record_Decode.f kj12 (y518 ++ l2)).bind fun bt524 => (if 0 ≤ bt524.2.2.2.2.2.2.2.2.2.2.2 then (if bt524.2.2.2.2.2.2.2.2.2.2.2 ≤ 5 then (if bt524.2.2.2.2.2.2.2.2.2.2.2 = 3 then (some (bt524.1 == 0 && (bt524.2.1 == 0 && (bt524.2.2.1.toList == ([] : List UInt8) && ((bt524.2.2.2.1 == 0 && (bt524.2.2.2.2.1 == 0 && (bt524.2.2.2.2.2.1 == 0 && (bt524.2.2.2.2.2.2.1 == 0 && (bt524.2.2.2.2.2.2.2.1 == 0))))) && ((bt524.2.2.2.2.2.2.2.2.1 == 0 && (bt524.2.2.2.2.2.2.2.2.2.1 == 0 && (bt524.2.2.2.2.2.2.2.2.2.2.1 == 0))))))))) else (some false)) else (none)) else (none))) else (none)) = some r := by first | (rw [hy518]; with_reducible exact H) | (have H2_ := (Option.bind_some _ _).symm.trans H; rw [hy518]; with_reducible exact H2_) | (have H2_ := (Option.bind_some _ _).symm.trans H; with_reducible exact H2_) | with_reducible exact H | (rw [hy518]; exact H) | exact H
                      have Ny518 := Aside0.mk hy518
                      clear hy518
                      by_cases c69 : y518.length + l2.length < 140737488355328
                      · rw [if_pos c69] at H
                        have LMc69 := Aside0.mk c69
                        clear c69
                        obtain ⟨y521, hy521⟩ : ∃ y_ : List Int, y_ = (y518 ++ l2) := ⟨_, rfl⟩
                        replace H : ((record_Decode.f kj12 y521).bind fun bt524 => (if 0 ≤ bt524.2.2.2.2.2.2.2.2.2.2.2 then (if bt524.2.2.2.2.2.2.2.2.2.2.2 ≤ 5 then (if bt524.2.2.2.2.2.2.2.2.2.2.2 = 3 then (some (bt524.1 == 0 && (bt524.2.1 == 0 && (bt524.2.2.1.toList == ([] : List UInt8) && ((bt524.2.2.2.1 == 0 && (bt524.2.2.2.2.1 == 0 && (bt524.2.2.2.2.2.1 == 0 && (bt524.2.2.2.2.2.2.1 == 0 && (bt524.2.2.2.2.2.2.2.1 == 0))))) && ((bt524.2.2.2.2.2.2.2.2.1 == 0 && (bt524.2.2.2.2.2.2.2.2.2.1 == 0 && (bt524.2.2.2.2.2.2.2.2.2.2.1 == 0))))))))) else (some false)) else (none)) else (none))) = some r := by first | (rw [hy521]; with_reducible exact H) | (have H2_ := (Option.bind_some _ _).symm.trans H; rw [hy521]; with_reducible exact H2_) | (have H2_ := (Option.bind_some _ _).symm.trans H; with_reducible exact H2_) | with_reducible exact H | (rw [hy521]; exact H) | exact H
                        have Ny521 := Aside0.mk hy521
                        clear hy521
                        replace H := Option.bind_eq_some_iff.mp H
                        obtain ⟨⟨t524, t525, t526, t527, t528, t529, t530, t531, t532, t533, t534, t535⟩, A700, H⟩ := H
                        replace H : (if 0 ≤ t535 then (if t535 ≤ 5 then (if t535 = 3 then (some (t524 == 0 && (t525 == 0 && (t526.toList == ([] : List UInt8) && ((t527 == 0 && (t528 == 0 && (t529 == 0 && (t530 == 0 && (t531 == 0))))) && ((t532 == 0 && (t533 == 0 && (t534 == 0))))))))) else (some false)) else (none)) else (none)) = some r := H
                        have A70 := Aside0.mk A700
                        clear A700
                        by_cases c71 : 0 ≤ t535
                        · rw [if_pos c71] at H
                          have c71b0 := eq_true c71
                          have c71b1 : decide (0 ≤ t535) = true := decide_eq_true c71
                          clear c71
                          by_cases c72 : t535 ≤ 5
                          · rw [if_pos c72] at H
                            have c72b0 := eq_true c72
                            have c72b1 : decide (t535 ≤ 5) = true := decide_eq_true c72
                            clear c72
                            by_cases c73 : t535 = 3
                            · rw [if_pos c73] at H
                              have c73b0 : (t535 == 3) = true := beq_iff_eq.mpr c73
                              have c73b1 : (t535 != 3) = false := bne_eq_false_iff_eq.mpr c73
                              clear c73
                              obtain rfl := Option.some.inj H
                              go_wp2_with (first | ((with_reducible refine gate_dst (N := 62) rfl ?_); (try (refine gate_guard (by rfl) ?_; dsimp only)); refine Kd.R_lit (Kd.int .u8) _ 5 ?hg (N := 62) ?hd (xs := ([] : List Int)) (inner := []) (ok := fun _ => True) (okp := fun _ => True) ?hr ?hp (fun _ hk => hk) trivial (Below.refl _ _) (Nat.le_refl _) (by simp) ?_; (case hd => rfl); (case hg => rfl); (case hr => first | (go_simp; done) | (go_simp; rfl)); (case hp => exact (Reps.none _ _)); intro v516 w74 ho75 hb hg_ hnew_; clear hg_ hnew_; (first | rw [← Ny515.out] at ho75 | (simp only [Int.reduceToNat] at ho75; rw [← Ny515.out] at ho75)); have n0_ := Aside0.mk (Kd.R_elder' (by (with_reducible repeat (first | apply Kd.R_alloc | apply Kd.R_drewN | apply Kd.R_drew)); exact HO_8.out) (Kd.R_base ho75) hb); have n1_ := Aside0.mk (Kd.R_lower (Kd.R_new' ho75 (Kd.R_lt (by (with_reducible repeat (first | apply Kd.R_alloc | apply Kd.R_drewN | apply Kd.R_drew)); exact HO_8.out))) (below_size (bw HB))); have n2_ := bb BK464 hb; have n3_ := bs HB hb; clear HO_8; clear BK464; clear HB; have HO_8 := n0_; have HO517 := n1_; have BK464 := n2_; have HB := n3_; clear n0_ n1_ n2_ n3_; clear hb ho75; obtain ⟨Ao77, co77, eo77⟩ := Kd.R_slice HO_8.out; subst eo77) | ((with_reducible refine gate_builtin (b := .append) (xs := #[.tmp 62, .tmp 63]) rfl ?_); (try (refine gate_guard (by rfl) ?_; dsimp only)); at_builtin; refine Kd.R_append_rows (Kd.int .u8) (w0 := w) w.heap.size rfl (.tmp 62) (.tmp 63) 33 5 (.int .u8 0) 1 rfl Tryd.underlying33 info5 rfl (by decide) (by omega) v516 y515 t466 _ _ _ (fun k_ => some k_ ≠ (.slice Ao77 t466.length co77 : Value).ownBlock) (fun _ => False) rfl rfl ?aO ?aR (fun _ _ h => h) (fun _ h => h.elim) ?aF ?aB ?aS ?aL ?_; (case aR => repeat (first | exact (Kd.R_reads' HO_8.out).2.2 | (with_reducible refine Kd.C_alloc ?_ _) | (with_reducible refine Kd.C_drewN ?_ _) | (with_reducible refine Kd.C_drew ?_))); (case aB => exact (bw HB)); (case aF => exact (fun k_ hk => Kd.fresh' (Kd.R_lt (by (with_reducible repeat (first | apply Kd.R_alloc | apply Kd.R_drewN | apply Kd.R_drew)); exact HO_8.out)) k_ hk)); (case aO => exact (by (with_reducible repeat (first | apply Kd.R_alloc | apply Kd.R_drewN | apply Kd.R_drew)); exact Kd.R_mono HO517.out (fun _ hk => hk.2))); (case aS => exact (below_size (bw HB))); (case aL => have := LMc68.out; omega); intro v519 w76 ho hb hg hat; rw [← Ny518.out] at ho; have n0_ := Aside0.mk (Kd.R_after (ok := (fun _ => True)) (by (with_reducible repeat (first | apply Kd.R_alloc | apply Kd.R_drewN | apply Kd.R_drew)); exact HO_8.out) hg hat); have n1_ := Aside0.mk (blk_grown (g := gb464) (o := .cells #[.int .i64 a0_0, .int .u64 a0_1, .string a0_2, .int .i64 a0_3, .int .u64 a0_4, .int .u64 a0_5, .int .u64 a0_6, .int .u64 a0_7, .int .u64 a0_8, .int .u64 a0_9, .int .u64 a0_10] 32 (0, 0)) (bk BK464) hg (Kd.R_ne HO517.out BK464.out (by decide))); have n2_ := Aside0.mk (hb); have n3_ := Aside0.mk (ho); clear HO_8; clear BK464; clear HB; clear HO517; have HO_8 := n0_; have BK464 := n1_; have HB := n2_; have HO520 := n3_; clear n0_ n1_ n2_ n3_; clear ho hb hg hat) | ((with_reducible refine gate_builtin (b := .append) (xs := #[.tmp 64, .tmp 65]) rfl ?_); (try (refine gate_guard (by rfl) ?_; dsimp only)); at_builtin; refine Kd.R_append_rows (Kd.int .u8) (w0 := w) w.heap.size rfl (.tmp 64) (.tmp 65) 33 5 (.int .u8 0) 1 rfl Tryd.underlying33 info5 rfl (by decide) (by omega) v519 y518 l2 _ _ _ (fun k_ => some k_ ≠ (.slice Ao77 t466.length co77 : Value).ownBlock) (fun _ => False) rfl rfl ?aO ?aR (fun _ _ h => h) (fun _ h => h.elim) ?aF ?aB ?aS ?aL ?_; (case aR => repeat (first | exact (Kd.C_below HR2.out HB.out) | (with_reducible refine Kd.C_alloc ?_ _) | (with_reducible refine Kd.C_drewN ?_ _) | (with_reducible refine Kd.C_drew ?_))); (case aB => exact (bw HB)); (case aF => exact (fun k_ hk => Kd.fresh' (Kd.R_lt (by (with_reducible repeat (first | apply Kd.R_alloc | apply Kd.R_drewN | apply Kd.R_drew)); exact HO_8.out)) k_ hk)); (case aO => exact (by (with_reducible repeat (first | apply Kd.R_alloc | apply Kd.R_drewN | apply Kd.R_drew)); exact HO520.out)); (case aS => exact (below_size (bw HB))); (case aL => have := LMc69.out; omega); intro v522 w78 ho hb hg hat; rw [← Ny521.out] at ho; have n0_ := Aside0.mk (Kd.R_after (ok := (fun _ => True)) (by (with_reducible repeat (first | apply Kd.R_alloc | apply Kd.R_drewN | apply Kd.R_drew)); exact HO_8.out) hg hat); have n1_ := Aside0.mk (blk_grown (g := gb464) (o := .cells #[.int .i64 a0_0, .int .u64 a0_1, .string a0_2, .int .i64 a0_3, .int .u64 a0_4, .int .u64 a0_5, .int .u64 a0_6, .int .u64 a0_7, .int .u64 a0_8, .int .u64 a0_9, .int .u64 a0_10] 32 (0, 0)) (bk BK464) hg (Kd.R_ne HO520.out BK464.out (by decide))); have n2_ := Aside0.mk (hb); have n3_ := Aside0.mk (ho); clear HO_8; clear BK464; clear HB; clear HO520; have HO_8 := n0_; have BK464 := n1_; have HB := n2_; have HO523 := n3_; clear n0_ n1_ n2_ n3_; clear ho hb hg hat; obtain ⟨Ao79, co79, eo79⟩ := Kd.R_slice HO523.out; subst eo79) | ((with_reducible refine gate_callee (f := 18) rfl ?_); refine gl (some 67) Tryd.func18 #[.slice Ao79 y521.length co79] ?_; (with_reducible refine (record_Decode.calls kj12 _ _ y521 t524 t525 t526 t527 t528 t529 t530 t531 t532 t533 t534 t535 _ ?side3 ?side1 ?side2 A70.out).mono ?_); (case side1 => repeat (first | exact (Kd.R_reads' HO523.out).2.2 | (with_reducible refine Kd.C_alloc ?_ _) | (with_reducible refine Kd.C_drewN ?_ _) | (with_reducible refine Kd.C_drew ?_))); (case side2 => exact (Kd.R_reads' HO523.out).2.1); (case side3 => exact (HERR.out.below (bw HB))); rintro e w80 ⟨rfl, hb⟩; refine ⟨_, rfl, ?_⟩; have n0_ := Aside0.mk (Kd.R_below (by (with_reducible repeat (first | apply Kd.R_alloc | apply Kd.R_drewN | apply Kd.R_drew)); exact HO_8.out) hb); have n1_ := Aside0.mk (Kd.R_below (by (with_reducible repeat (first | apply Kd.R_alloc | apply Kd.R_drewN | apply Kd.R_drew)); exact HO523.out) hb); have n2_ := bb BK464 hb; have n3_ := bs HB hb; clear HO_8; clear HO523; clear BK464; clear HB; have HO_8 := n0_; have HO523 := n1_; have BK464 := n2_; have HB := n3_; clear n0_ n1_ n2_ n3_; (try clear hb); (try clear hb2); (try clear hk); (try clear hi)) | ((with_reducible refine gate_dst (N := 12) rfl ?_); (try (refine gate_guard (by rfl) ?_; dsimp only)); refine bx 12 #[.int .i64 0, .int .u64 0, .string (⟨#[]⟩ : ByteArray), .int .i64 0, .int .u64 0, .int .u64 0, .int .u64 0, .int .u64 0, .int .u64 0, .int .u64 0, .int .u64 0] 32 ?_; intro gb536 hg w81 hbox hb; have n0_ := Aside0.mk (Kd.R_below (by (with_reducible repeat (first | apply Kd.R_alloc | apply Kd.R_drewN | apply Kd.R_drew)); exact HO_8.out) hb); have n1_ := Aside0.mk (Kd.R_below (by (with_reducible repeat (first | apply Kd.R_alloc | apply Kd.R_drewN | apply Kd.R_drew)); exact HO523.out) hb); have n2_ := bb BK464 hb; have n3_ := bs HB hb; have n4_ := Aside0.mk (hbox); have n5_ := sz HB hg; have n6_ := sz HB hg; have n7_ := nl BK464 hg; have n8_ := nr BK464 hg; clear HO_8; clear HO523; clear BK464; clear HB; have HO_8 := n0_; have HO523 := n1_; have BK464 := n2_; have HB := n3_; have BK536 := n4_; have GW536 := n5_; have GE536 := n6_; have NB464_536 := n7_; have NB536_464 := n8_; clear n0_ n1_ n2_ n3_ n4_ n5_ n6_ n7_ n8_; clear hb hbox hg; have hnb82 := NB536_464.out; have hnc82 := NB464_536.out; obtain ⟨hcz83_0, hcz83_1, hcz83_2, hcz83_3, hcz83_4, hcz83_5, hcz83_6, hcz83_7, hcz83_8, hcz83_9, hcz83_10, hfz83_0, hfz83_1, hfz83_2, hfz83_3, hfz83_4, hfz83_5, hfz83_6, hfz83_7, hfz83_8, hfz83_9, hfz83_10⟩ := bc11 BK536) | ((with_reducible refine gate_dst (N := 71) rfl ?_); (try (refine gate_guard (by rfl) ?_; dsimp only)); refine ld_err 3 2 (HERR.out.below (bw HB)) ?_ rfl rfl (by decide) (by have := Errs.five; omega) rfl) | ((with_reducible refine gate_dst (N := 72) rfl ?_); (try (refine gate_guard (by rfl) ?_; dsimp only)); refine eq_err t535 3 (b := (t535 == 3)) (HERR.out.below (bw HB)) ?_ rfl (of_decide_eq_true (by first | (with_reducible assumption) | assumption)) (Int.le_trans (of_decide_eq_true (by first | (with_reducible assumption) | assumption) : t535 ≤ 5) Errs.five) (by decide) (by have := Errs.five; omega)))
                              go_ret
                              exact ⟨re, bw HB⟩
                            · rw [if_neg c73] at H
                              have c73b0 : (t535 == 3) = false := beq_eq_false_iff_ne.mpr c73
                              have c73b1 : (t535 != 3) = true := bne_iff_ne.mpr c73
                              obtain rfl := Option.some.inj H
                              go_wp2_with (first | ((with_reducible refine gate_dst (N := 62) rfl ?_); (try (refine gate_guard (by rfl) ?_; dsimp only)); refine Kd.R_lit (Kd.int .u8) _ 5 ?hg (N := 62) ?hd (xs := ([] : List Int)) (inner := []) (ok := fun _ => True) (okp := fun _ => True) ?hr ?hp (fun _ hk => hk) trivial (Below.refl _ _) (Nat.le_refl _) (by simp) ?_; (case hd => rfl); (case hg => rfl); (case hr => first | (go_simp; done) | (go_simp; rfl)); (case hp => exact (Reps.none _ _)); intro v516 w84 ho85 hb hg_ hnew_; clear hg_ hnew_; (first | rw [← Ny515.out] at ho85 | (simp only [Int.reduceToNat] at ho85; rw [← Ny515.out] at ho85)); have n0_ := Aside0.mk (Kd.R_elder' (by (with_reducible repeat (first | apply Kd.R_alloc | apply Kd.R_drewN | apply Kd.R_drew)); exact HO_8.out) (Kd.R_base ho85) hb); have n1_ := Aside0.mk (Kd.R_lower (Kd.R_new' ho85 (Kd.R_lt (by (with_reducible repeat (first | apply Kd.R_alloc | apply Kd.R_drewN | apply Kd.R_drew)); exact HO_8.out))) (below_size (bw HB))); have n2_ := bb BK464 hb; have n3_ := bs HB hb; clear HO_8; clear BK464; clear HB; have HO_8 := n0_; have HO517 := n1_; have BK464 := n2_; have HB := n3_; clear n0_ n1_ n2_ n3_; clear hb ho85; obtain ⟨Ao87, co87, eo87⟩ := Kd.R_slice HO_8.out; subst eo87) | ((with_reducible refine gate_builtin (b := .append) (xs := #[.tmp 62, .tmp 63]) rfl ?_); (try (refine gate_guard (by rfl) ?_; dsimp only)); at_builtin; refine Kd.R_append_rows (Kd.int .u8) (w0 := w) w.heap.size rfl (.tmp 62) (.tmp 63) 33 5 (.int .u8 0) 1 rfl Tryd.underlying33 info5 rfl (by decide) (by omega) v516 y515 t466 _ _ _ (fun k_ => some k_ ≠ (.slice Ao87 t466.length co87 : Value).ownBlock) (fun _ => False) rfl rfl ?aO ?aR (fun _ _ h => h) (fun _ h => h.elim) ?aF ?aB ?aS ?aL ?_; (case aR => repeat (first | exact (Kd.R_reads' HO_8.out).2.2 | (with_reducible refine Kd.C_alloc ?_ _) | (with_reducible refine Kd.C_drewN ?_ _) | (with_reducible refine Kd.C_drew ?_))); (case aB => exact (bw HB)); (case aF => exact (fun k_ hk => Kd.fresh' (Kd.R_lt (by (with_reducible repeat (first | apply Kd.R_alloc | apply Kd.R_drewN | apply Kd.R_drew)); exact HO_8.out)) k_ hk)); (case aO => exact (by (with_reducible repeat (first | apply Kd.R_alloc | apply Kd.R_drewN | apply Kd.R_drew)); exact Kd.R_mono HO517.out (fun _ hk => hk.2))); (case aS => exact (below_size (bw HB))); (case aL => have := LMc68.out; omega); intro v519 w86 ho hb hg hat; rw [← Ny518.out] at ho; have n0_ := Aside0.mk (Kd.R_after (ok := (fun _ => True)) (by (with_reducible repeat (first | apply Kd.R_alloc | apply Kd.R_drewN | apply Kd.R_drew)); exact HO_8.out) hg hat); have n1_ := Aside0.mk (blk_grown (g := gb464) (o := .cells #[.int .i64 a0_0, .int .u64 a0_1, .string a0_2, .int .i64 a0_3, .int .u64 a0_4, .int .u64 a0_5, .int .u64 a0_6, .int .u64 a0_7, .int .u64 a0_8, .int .u64 a0_9, .int .u64 a0_10] 32 (0, 0)) (bk BK464) hg (Kd.R_ne HO517.out BK464.out (by decide))); have n2_ := Aside0.mk (hb); have n3_ := Aside0.mk (ho); clear HO_8; clear BK464; clear HB; clear HO517; have HO_8 := n0_; have BK464 := n1_; have HB := n2_; have HO520 := n3_; clear n0_ n1_ n2_ n3_; clear ho hb hg hat) | ((with_reducible refine gate_builtin (b := .append) (xs := #[.tmp 64, .tmp 65]) rfl ?_); (try (refine gate_guard (by rfl) ?_; dsimp only)); at_builtin; refine Kd.R_append_rows (Kd.int .u8) (w0 := w) w.heap.size rfl (.tmp 64) (.tmp 65) 33 5 (.int .u8 0) 1 rfl Tryd.underlying33 info5 rfl (by decide) (by omega) v519 y518 l2 _ _ _ (fun k_ => some k_ ≠ (.slice Ao87 t466.length co87 : Value).ownBlock) (fun _ => False) rfl rfl ?aO ?aR (fun _ _ h => h) (fun _ h => h.elim) ?aF ?aB ?aS ?aL ?_; (case aR => repeat (first | exact (Kd.C_below HR2.out HB.out) | (with_reducible refine Kd.C_alloc ?_ _) | (with_reducible refine Kd.C_drewN ?_ _) | (with_reducible refine Kd.C_drew ?_))); (case aB => exact (bw HB)); (case aF => exact (fun k_ hk => Kd.fresh' (Kd.R_lt (by (with_reducible repeat (first | apply Kd.R_alloc | apply Kd.R_drewN | apply Kd.R_drew)); exact HO_8.out)) k_ hk)); (case aO => exact (by (with_reducible repeat (first | apply Kd.R_alloc | apply Kd.R_drewN | apply Kd.R_drew)); exact HO520.out)); (case aS => exact (below_size (bw HB))); (case aL => have := LMc69.out; omega); intro v522 w88 ho hb hg hat; rw [← Ny521.out] at ho; have n0_ := Aside0.mk (Kd.R_after (ok := (fun _ => True)) (by (with_reducible repeat (first | apply Kd.R_alloc | apply Kd.R_drewN | apply Kd.R_drew)); exact HO_8.out) hg hat); have n1_ := Aside0.mk (blk_grown (g := gb464) (o := .cells #[.int .i64 a0_0, .int .u64 a0_1, .string a0_2, .int .i64 a0_3, .int .u64 a0_4, .int .u64 a0_5, .int .u64 a0_6, .int .u64 a0_7, .int .u64 a0_8, .int .u64 a0_9, .int .u64 a0_10] 32 (0, 0)) (bk BK464) hg (Kd.R_ne HO520.out BK464.out (by decide))); have n2_ := Aside0.mk (hb); have n3_ := Aside0.mk (ho); clear HO_8; clear BK464; clear HB; clear HO520; have HO_8 := n0_; have BK464 := n1_; have HB := n2_; have HO523 := n3_; clear n0_ n1_ n2_ n3_; clear ho hb hg hat; obtain ⟨Ao89, co89, eo89⟩ := Kd.R_slice HO523.out; subst eo89) | ((with_reducible refine gate_callee (f := 18) rfl ?_); refine gl (some 67) Tryd.func18 #[.slice Ao89 y521.length co89] ?_; (with_reducible refine (record_Decode.calls kj12 _ _ y521 t524 t525 t526 t527 t528 t529 t530 t531 t532 t533 t534 t535 _ ?side3 ?side1 ?side2 A70.out).mono ?_); (case side1 => repeat (first | exact (Kd.R_reads' HO523.out).2.2 | (with_reducible refine Kd.C_alloc ?_ _) | (with_reducible refine Kd.C_drewN ?_ _) | (with_reducible refine Kd.C_drew ?_))); (case side2 => exact (Kd.R_reads' HO523.out).2.1); (case side3 => exact (HERR.out.below (bw HB))); rintro e w90 ⟨rfl, hb⟩; refine ⟨_, rfl, ?_⟩; have n0_ := Aside0.mk (Kd.R_below (by (with_reducible repeat (first | apply Kd.R_alloc | apply Kd.R_drewN | apply Kd.R_drew)); exact HO_8.out) hb); have n1_ := Aside0.mk (Kd.R_below (by (with_reducible repeat (first | apply Kd.R_alloc | apply Kd.R_drewN | apply Kd.R_drew)); exact HO523.out) hb); have n2_ := bb BK464 hb; have n3_ := bs HB hb; clear HO_8; clear HO523; clear BK464; clear HB; have HO_8 := n0_; have HO523 := n1_; have BK464 := n2_; have HB := n3_; clear n0_ n1_ n2_ n3_; (try clear hb); (try clear hb2); (try clear hk); (try clear hi)) | ((with_reducible refine gate_dst (N := 12) rfl ?_); (try (refine gate_guard (by rfl) ?_; dsimp only)); refine bx 12 #[.int .i64 0, .int .u64 0, .string (⟨#[]⟩ : ByteArray), .int .i64 0, .int .u64 0, .int .u64 0, .int .u64 0, .int .u64 0, .int .u64 0, .int .u64 0, .int .u64 0] 32 ?_; intro gb536 hg w91 hbox hb; have n0_ := Aside0.mk (Kd.R_below (by (with_reducible repeat (first | apply Kd.R_alloc | apply Kd.R_drewN | apply Kd.R_drew)); exact HO_8.out) hb); have n1_ := Aside0.mk (Kd.R_below (by (with_reducible repeat (first | apply Kd.R_alloc | apply Kd.R_drewN | apply Kd.R_drew)); exact HO523.out) hb); have n2_ := bb BK464 hb; have n3_ := bs HB hb; have n4_ := Aside0.mk (hbox); have n5_ := sz HB hg; have n6_ := sz HB hg; have n7_ := nl BK464 hg; have n8_ := nr BK464 hg; clear HO_8; clear HO523; clear BK464; clear HB; have HO_8 := n0_; have HO523 := n1_; have BK464 := n2_; have HB := n3_; have BK536 := n4_; have GW536 := n5_; have GE536 := n6_; have NB464_536 := n7_; have NB536_464 := n8_; clear n0_ n1_ n2_ n3_ n4_ n5_ n6_ n7_ n8_; clear hb hbox hg; have hnb92 := NB536_464.out; have hnc92 := NB464_536.out; obtain ⟨hcz93_0, hcz93_1, hcz93_2, hcz93_3, hcz93_4, hcz93_5, hcz93_6, hcz93_7, hcz93_8, hcz93_9, hcz93_10, hfz93_0, hfz93_1, hfz93_2, hfz93_3, hfz93_4, hfz93_5, hfz93_6, hfz93_7, hfz93_8, hfz93_9, hfz93_10⟩ := bc11 BK536) | ((with_reducible refine gate_dst (N := 71) rfl ?_); (try (refine gate_guard (by rfl) ?_; dsimp only)); refine ld_err 3 2 (HERR.out.below (bw HB)) ?_ rfl rfl (by decide) (by have := Errs.five; omega) rfl) | ((with_reducible refine gate_dst (N := 72) rfl ?_); (try (refine gate_guard (by rfl) ?_; dsimp only)); refine eq_err t535 3 (b := (t535 == 3)) (HERR.out.below (bw HB)) ?_ rfl (of_decide_eq_true (by first | (with_reducible assumption) | assumption)) (Int.le_trans (of_decide_eq_true (by first | (with_reducible assumption) | assumption) : t535 ≤ 5) Errs.five) (by decide) (by have := Errs.five; omega)))
                              go_ret
                              exact ⟨re, bw HB⟩
                          · rw [if_neg c72] at H
                            exact absurd H (by simp)
                        · rw [if_neg c71] at H
                          exact absurd H (by simp)
                      · rw [if_neg c69] at H
                        exact absurd H (by simp)
                    · rw [if_neg c68] at H
                      exact absurd H (by simp)
          · rw [if_neg c12] at H
            have c12b0 : (t469 == 0) = false := beq_eq_false_iff_ne.mpr c12
            have c12b1 : (t469 != 0) = true := bne_iff_ne.mpr c12
            have c94b0 := eq_true (of_decide_eq_true (by first | (with_reducible assumption) | assumption) : 0 ≤ t469)
            by_cases c95 : t469 ≤ 5
            · rw [if_pos c95] at H
              have c95b0 := eq_true c95
              have c95b1 : decide (t469 ≤ 5) = true := decide_eq_true c95
              clear c95
              obtain rfl := Option.some.inj H
              obtain ⟨hcz96_0, hcz96_1, hcz96_2, hcz96_3, hcz96_4, hcz96_5, hcz96_6, hcz96_7, hcz96_8, hcz96_9, hcz96_10, hfz96_0, hfz96_1, hfz96_2, hfz96_3, hfz96_4, hfz96_5, hfz96_6, hfz96_7, hfz96_8, hfz96_9, hfz96_10⟩ := bc11 BK464
              go_wp2_with (first | ((with_reducible refine gate_callee (f := 16) rfl ?_); refine gl (some 25) Tryd.func16 #[.agg #[.int .i64 a0_0, .int .u64 a0_1, .string a0_2, .int .i64 a0_3, .int .u64 a0_4, .int .u64 a0_5, .int .u64 a0_6, .int .u64 a0_7, .int .u64 a0_8, .int .u64 a0_9, .int .u64 a0_10]] ?_; (with_reducible refine (record_Encode.calls kj4 a0_0 a0_1 a0_2 a0_3 a0_4 a0_5 a0_6 a0_7 a0_8 a0_9 a0_10 t466 t469 _ ?side1 A10.out).mono ?_); (case side1 => exact (HERR.out.below (bw HB))); rintro e w97 ⟨v467, rfl, ho0, hb⟩; refine ⟨_, rfl, ?_⟩; have n0_ := Aside0.mk (Kd.R_lower ho0 (below_size (bw HB))); have n1_ := bb BK464 hb; have n2_ := bs HB hb; clear BK464; clear HB; have HO468 := n0_; have BK464 := n1_; have HB := n2_; clear n0_ n1_ n2_; (try clear hb); (try clear hb2); (try clear hk); (try clear hi); (try clear ho0)) | ((with_reducible refine gate_dst (N := 29) rfl ?_); (try (refine gate_guard (by rfl) ?_; dsimp only)); refine nen_err t469 (b := (t469 != 0)) ?_ rfl (of_decide_eq_true (by first | (with_reducible assumption) | assumption))) | ((with_reducible refine gate_dst (N := 31) rfl ?_); (try (refine gate_guard (by rfl) ?_; dsimp only)); refine ld_err 1 0 (HERR.out.below (bw HB)) ?_ rfl rfl (by decide) (by have := Errs.five; omega) rfl) | ((with_reducible refine gate_dst (N := 32) rfl ?_); (try (refine gate_guard (by rfl) ?_; dsimp only)); refine eq_err t469 1 (b := (t469 == 1)) (HERR.out.below (bw HB)) ?_ rfl (of_decide_eq_true (by first | (with_reducible assumption) | assumption)) (Int.le_trans (of_decide_eq_true (by first | (with_reducible assumption) | assumption) : t469 ≤ 5) Errs.five) (by decide) (by have := Errs.five; omega)))
              go_ret
              exact ⟨re, bw HB⟩
            · rw [if_neg c95] at H
              exact absurd H (by simp)
        · rw [if_neg c11] at H
          exact absurd H (by simp)


end Go.Proofs.YtkgjepmminmjjaaDoor.E
