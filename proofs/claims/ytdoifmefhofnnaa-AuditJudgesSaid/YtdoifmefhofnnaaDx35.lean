/- Written by the session's own program hyb.py: what functions of the program compute; Lean checks it. -/
import Derived.Test.YtdoifmefhofnnaaDx0
import Derived.Test.YtdoifmefhofnnaaDx26
import Derived.Test.YtdoifmefhofnnaaDx32
import Derived.Test.YtdoifmefhofnnaaDx34
namespace Go.Proofs.Ytdoifmefhofnnaa.D
open Go.RowKit Go.Proofs.YtdoifmefhofnnaaW.PrintWords Go.Proofs.YtdoifmefhofnnaaW.PrintLast Go.Proofs.YtdoifmefhofnnaaW.PrintMore Go.Proofs.YtdoifmefhofnnaaW.PrintShort
attribute [local go_sem] run_Add64 run_Sub64
attribute [local go_sem] max2_int min2_int max_two min_two max_three min_three max_four min_four   -- for this text's walks alone
set_option linter.unusedVariables false
set_option linter.unusedSimpArgs false

/-! ### turnstileref24_Conforms: function 13 -/
def turnstileref24_Conforms.f (k : Nat) (a0_0 : Int) (a0_1 : Int) (a0_2 : Int) (a0_3 : Int) (a0_4 : Int) (l1 : List (S31)) : Option (Bool) := (turnstileref24_valid.f a0_0 a0_1 a0_2 a0_3 a0_4).bind fun t470 => (if t470 = true then (if a0_0 = 1 then ((turnstileref24_flow.f k a0_0 a0_1 a0_2 a0_3 a0_4 l1).bind fun bt471 => (some bt471.2)) else ((turnstileref24_grid.f k a0_0 a0_1 a0_2 a0_3 a0_4 l1).bind fun bt475 => (some bt475.2.2))) else (some false))
set_option maxHeartbeats 8000000 in
set_option maxRecDepth 100000 in
theorem turnstileref24_Conforms.calls (k : Nat) (a0_0 : Int) (a0_1 : Int) (a0_2 : Int) (a0_3 : Int) (a0_4 : Int) (A1 : Option Addr) (c1 : Nat) (l1 : List (S31)) (r : Bool) (w : World) (hr1 : Kd.C k31 w A1 l1.length l1) (hc1 : l1.length ≤ c1) (h : turnstileref24_Conforms.f k a0_0 a0_1 a0_2 a0_3 a0_4 l1 = some r) :
    Calls Try.prog 13 #[.agg #[.int .i64 a0_0, .int .u64 a0_1, .int .u64 a0_2, .int .u64 a0_3, .int .u64 a0_4], .slice A1 l1.length c1] w fun e w' => e = .returned (.bool r) ∧ Below w.heap.size w w' := by
  have hu24 := Try.underlying24
  have HR1 := Aside0.mk hr1
  have HC1 := Aside0.mk hc1
  clear hr1 hc1
  have HB := Aside0.mk (Below.refl w.heap.size w)
  have H : ((turnstileref24_valid.f a0_0 a0_1 a0_2 a0_3 a0_4).bind fun t470 => (if t470 = true then (if a0_0 = 1 then ((turnstileref24_flow.f k a0_0 a0_1 a0_2 a0_3 a0_4 l1).bind fun bt471 => (some bt471.2)) else ((turnstileref24_grid.f k a0_0 a0_1 a0_2 a0_3 a0_4 l1).bind fun bt475 => (some bt475.2.2))) else (some false))) = some r := h
  clear h
  replace H := Option.bind_eq_some_iff.mp H
  obtain ⟨t470, A30, H⟩ := H
  replace H : (if t470 = true then (if a0_0 = 1 then ((turnstileref24_flow.f k a0_0 a0_1 a0_2 a0_3 a0_4 l1).bind fun bt471 => (some bt471.2)) else ((turnstileref24_grid.f k a0_0 a0_1 a0_2 a0_3 a0_4 l1).bind fun bt475 => (some bt475.2.2))) else (some false)) = some r := H
  have A3 := Aside0.mk A30
  clear A30
  by_cases c4 : t470 = true
  · subst c4
    have H1 : (if a0_0 = 1 then ((turnstileref24_flow.f k a0_0 a0_1 a0_2 a0_3 a0_4 l1).bind fun bt471 => (some bt471.2)) else ((turnstileref24_grid.f k a0_0 a0_1 a0_2 a0_3 a0_4 l1).bind fun bt475 => (some bt475.2.2))) = some r := by rw [if_pos rfl] at H; exact H
    clear H
    have H := H1
    clear H1
    by_cases c5 : a0_0 = 1
    · rw [if_pos c5] at H
      have c5b0 : (a0_0 == 1) = true := beq_iff_eq.mpr c5
      have c5b1 : (a0_0 != 1) = false := bne_eq_false_iff_eq.mpr c5
      clear c5
      replace H := Option.bind_eq_some_iff.mp H
      obtain ⟨⟨t471, t474⟩, A60, H⟩ := H
      replace H : (some t474) = some r := H
      have A6 := Aside0.mk A60
      clear A60
      obtain rfl := Option.some.inj H
      go_enter Try.func13, Try.ntmps13
      go_wp2_with (first | ((with_reducible refine gate_dst (N := 2) rfl ?_); refine bx 2 #[.int .i64 a0_0, .int .u64 a0_1, .int .u64 a0_2, .int .u64 a0_3, .int .u64 a0_4] 24 ?_; intro gb469 hg w7 hbox hb; have BK469 := Aside0.mk (hbox); have GW469 := sz HB hg; have GE469 := sz HB hg; replace HB := bs HB hb; clear hb hbox hg; obtain ⟨hcz8_0, hcz8_1, hcz8_2, hcz8_3, hcz8_4, hfz8_0, hfz8_1, hfz8_2, hfz8_3, hfz8_4⟩ := bc5 BK469) | ((with_reducible refine gate_callee (f := 30) rfl ?_); refine gm (some 11) Try.func30 #[.agg #[.int .i64 a0_0, .int .u64 a0_1, .int .u64 a0_2, .int .u64 a0_3, .int .u64 a0_4]] (turnstileref24_valid.calls a0_0 a0_1 a0_2 a0_3 a0_4 true _ A3.out) ?_; intro w9 hb; replace BK469 := bb BK469 hb; replace HB := bs HB hb; (try clear hb); (try clear hb2); (try clear hk); (try clear hi); obtain ⟨hcz10_0, hcz10_1, hcz10_2, hcz10_3, hcz10_4, hfz10_0, hfz10_1, hfz10_2, hfz10_3, hfz10_4⟩ := bc5 BK469) | ((with_reducible refine gate_callee (f := 31) rfl ?_); refine gl (some 19) Try.func31 #[.agg #[.int .i64 a0_0, .int .u64 a0_1, .int .u64 a0_2, .int .u64 a0_3, .int .u64 a0_4], .slice A1 l1.length c1] ?_; (with_reducible refine (turnstileref24_flow.calls k a0_0 a0_1 a0_2 a0_3 a0_4 _ _ l1 t471 t474 _ ?side1 ?side2 A6.out).mono ?_); (case side1 => exact co (Kd.C_below HR1.out HB.out)); (case side2 => exact HC1.out); rintro e w11 ⟨v472, rfl, ho0, hb⟩; refine ⟨_, rfl, ?_⟩; have HO473 := Aside0.mk (Kd.R_lower ho0 (below_size (bw HB))); replace BK469 := bb BK469 hb; replace HB := bs HB hb; (try clear hb); (try clear hb2); (try clear hk); (try clear hi); (try clear ho0)))
      go_ret
      exact ⟨re, bw HB⟩
    · rw [if_neg c5] at H
      have c5b0 : (a0_0 == 1) = false := beq_eq_false_iff_ne.mpr c5
      have c5b1 : (a0_0 != 1) = true := bne_iff_ne.mpr c5
      replace H := Option.bind_eq_some_iff.mp H
      obtain ⟨⟨t475, t476, t477⟩, A120, H⟩ := H
      replace H : (some t477) = some r := H
      have A12 := Aside0.mk A120
      clear A120
      obtain rfl := Option.some.inj H
      go_enter Try.func13, Try.ntmps13
      go_wp2_with (first | ((with_reducible refine gate_dst (N := 2) rfl ?_); refine bx 2 #[.int .i64 a0_0, .int .u64 a0_1, .int .u64 a0_2, .int .u64 a0_3, .int .u64 a0_4] 24 ?_; intro gb469 hg w13 hbox hb; have BK469 := Aside0.mk (hbox); have GW469 := sz HB hg; have GE469 := sz HB hg; replace HB := bs HB hb; clear hb hbox hg; obtain ⟨hcz14_0, hcz14_1, hcz14_2, hcz14_3, hcz14_4, hfz14_0, hfz14_1, hfz14_2, hfz14_3, hfz14_4⟩ := bc5 BK469) | ((with_reducible refine gate_callee (f := 30) rfl ?_); refine gm (some 11) Try.func30 #[.agg #[.int .i64 a0_0, .int .u64 a0_1, .int .u64 a0_2, .int .u64 a0_3, .int .u64 a0_4]] (turnstileref24_valid.calls a0_0 a0_1 a0_2 a0_3 a0_4 true _ A3.out) ?_; intro w15 hb; replace BK469 := bb BK469 hb; replace HB := bs HB hb; (try clear hb); (try clear hb2); (try clear hk); (try clear hi); obtain ⟨hcz16_0, hcz16_1, hcz16_2, hcz16_3, hcz16_4, hfz16_0, hfz16_1, hfz16_2, hfz16_3, hfz16_4⟩ := bc5 BK469) | ((with_reducible refine gate_callee (f := 32) rfl ?_); refine gl (some 26) Try.func32 #[.agg #[.int .i64 a0_0, .int .u64 a0_1, .int .u64 a0_2, .int .u64 a0_3, .int .u64 a0_4], .slice A1 l1.length c1] ?_; (with_reducible refine (turnstileref24_grid.calls k a0_0 a0_1 a0_2 a0_3 a0_4 _ _ l1 t475 t476 t477 _ ?side1 ?side2 A12.out).mono ?_); (case side1 => exact co (Kd.C_below HR1.out HB.out)); (case side2 => exact HC1.out); rintro e w17 ⟨rfl, hb⟩; refine ⟨_, rfl, ?_⟩; replace BK469 := bb BK469 hb; replace HB := bs HB hb; (try clear hb); (try clear hb2); (try clear hk); (try clear hi)))
      go_ret
      exact ⟨re, bw HB⟩
  · replace c4 := Bool.eq_false_iff.mpr c4
    subst c4
    have H1 : (some false) = some r := by rw [if_neg (show ¬ (false = true) by decide)] at H; exact H
    clear H
    have H := H1
    clear H1
    obtain rfl := Option.some.inj H
    go_enter Try.func13, Try.ntmps13
    go_wp2_with (first | ((with_reducible refine gate_dst (N := 2) rfl ?_); refine bx 2 #[.int .i64 a0_0, .int .u64 a0_1, .int .u64 a0_2, .int .u64 a0_3, .int .u64 a0_4] 24 ?_; intro gb469 hg w18 hbox hb; have BK469 := Aside0.mk (hbox); have GW469 := sz HB hg; have GE469 := sz HB hg; replace HB := bs HB hb; clear hb hbox hg; obtain ⟨hcz19_0, hcz19_1, hcz19_2, hcz19_3, hcz19_4, hfz19_0, hfz19_1, hfz19_2, hfz19_3, hfz19_4⟩ := bc5 BK469) | ((with_reducible refine gate_callee (f := 30) rfl ?_); refine gm (some 11) Try.func30 #[.agg #[.int .i64 a0_0, .int .u64 a0_1, .int .u64 a0_2, .int .u64 a0_3, .int .u64 a0_4]] (turnstileref24_valid.calls a0_0 a0_1 a0_2 a0_3 a0_4 false _ A3.out) ?_; intro w20 hb; replace BK469 := bb BK469 hb; replace HB := bs HB hb; (try clear hb); (try clear hb2); (try clear hk); (try clear hi)))
    go_ret
    exact ⟨re, bw HB⟩

end Go.Proofs.Ytdoifmefhofnnaa.D
