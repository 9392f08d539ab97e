/- Written by the session's own program hyb.py: what functions of the program compute; Lean checks it. -/
import Derived.Test.YtnhngjhodcikiaaDoorFx0
import Derived.Test.YtnhngjhodcikiaaDoorFx16
import Derived.Test.YtnhngjhodcikiaaDoorFx18
import Derived.Test.YtnhngjhodcikiaaDoorFx19
import Derived.Test.YtnhngjhodcikiaaDoorFx30
import Derived.Test.YtnhngjhodcikiaaDoorFx33
import Derived.Test.YtnhngjhodcikiaaDoorFx34
import Derived.Test.YtnhngjhodcikiaaDoorFx35
import Derived.Test.YtnhngjhodcikiaaDoorWErr
namespace Go.Proofs.YtnhngjhodcikiaaDoor.F
open Go.RowKit Go.Proofs.YtnhngjhodcikiaaDoorW.PrintWords Go.Proofs.YtnhngjhodcikiaaDoorW.PrintLast Go.Proofs.YtnhngjhodcikiaaDoorW.PrintMore Go.Proofs.YtnhngjhodcikiaaDoorW.PrintShort
attribute [local go_sem] run_Add64 run_Sub64
attribute [local go_sem] max2_int min2_int max_two min_two max_three min_three max_four min_four   -- for this text's walks alone
set_option linter.unusedVariables false
set_option linter.unusedSimpArgs false

/-! ### turnstilelaw13_StateLooks: function 3 -/
mutual
def turnstilelaw13_StateLooks.l0 : Nat → List (S27) → ByteArray → Int → Option (Bool)
  | 0, _, _, _ => none
  | k + 1, x0, x1, x5 => if x5 < (x0.length : Int) then (if 0 ≤ x5 then ((turnstileref13_Valid.f k ((rd_T27 x0 x5).f0) ((rd_T27 x0 x5).f1) ((rd_T27 x0 x5).f2)).bind fun t275 => ((state_Valid.f ((rd_T27 x0 x5).f0) ((rd_T27 x0 x5).f1) ((rd_T27 x0 x5).f2)).bind fun t276 => (if (t276 != t275) = true then (some false) else ((state_Find.f ((rd_T27 x0 x5).f0) ((rd_T27 x0 x5).f1) ((rd_T27 x0 x5).f2) x1).bind fun bt277 => ((turnstileref13_Find.f k ((rd_T27 x0 x5).f0) ((rd_T27 x0 x5).f1) ((rd_T27 x0 x5).f2) x1).bind fun bt279 => (if t275 = true then (if bt277.1 = bt279.1 then (turnstilelaw13_StateLooks.j1 k x0 x1 x5 (bt277.2 != bt279.2) ((rd_T27 x0 x5).f0) ((rd_T27 x0 x5).f1) ((rd_T27 x0 x5).f2)) else (turnstilelaw13_StateLooks.j1 k x0 x1 x5 true ((rd_T27 x0 x5).f0) ((rd_T27 x0 x5).f1) ((rd_T27 x0 x5).f2))) else (turnstilelaw13_StateLooks.j1 k x0 x1 x5 false ((rd_T27 x0 x5).f0) ((rd_T27 x0 x5).f1) ((rd_T27 x0 x5).f2)))))))) else (none)) else (some true)
def turnstilelaw13_StateLooks.j1 : Nat → List (S27) → ByteArray → Int → Bool → Int → Int → List (S56) → Option (Bool)
  | 0, _, _, _, _, _, _, _ => none
  | k + 1, x0, x1, x5, x52, x275000, x275001, x275002 => if x52 = true then (some false) else ((state_Equal.f k x275000 x275001 x275002 x275000 x275001 x275002).bind fun t281 => (if t281 = true then (if x5 > 0 then (if 0 ≤ (wrap64 (x5 - 1)) then (if (wrap64 (x5 - 1)) < (x0.length : Int) then ((state_Equal.f k ((rd_T27 x0 (wrap64 (x5 - 1))).f0) ((rd_T27 x0 (wrap64 (x5 - 1))).f1) ((rd_T27 x0 (wrap64 (x5 - 1))).f2) x275000 x275001 x275002).bind fun t283 => ((turnstileref13_Equal.f k ((rd_T27 x0 (wrap64 (x5 - 1))).f0) ((rd_T27 x0 (wrap64 (x5 - 1))).f1) ((rd_T27 x0 (wrap64 (x5 - 1))).f2) x275000 x275001 x275002).bind fun t285 => (if (t283 != t285) = true then (some false) else ((state_Equal.f k x275000 x275001 x275002 ((rd_T27 x0 (wrap64 (x5 - 1))).f0) ((rd_T27 x0 (wrap64 (x5 - 1))).f1) ((rd_T27 x0 (wrap64 (x5 - 1))).f2)).bind fun t287 => ((turnstileref13_Equal.f k x275000 x275001 x275002 ((rd_T27 x0 (wrap64 (x5 - 1))).f0) ((rd_T27 x0 (wrap64 (x5 - 1))).f1) ((rd_T27 x0 (wrap64 (x5 - 1))).f2)).bind fun t289 => (if (t287 != t289) = true then (some false) else (turnstilelaw13_StateLooks.l0 k x0 x1 (wrap64 (x5 + 1))))))))) else (none)) else (none)) else (turnstilelaw13_StateLooks.l0 k x0 x1 (wrap64 (x5 + 1)))) else (some false)))
end
def turnstilelaw13_StateLooks.f (k : Nat) (l0 : List (S27)) (a1 : ByteArray) : Option (Bool) := (turnstilelaw13_lives.f).bind fun t272 => (if t272 = true then (turnstilelaw13_StateLooks.l0 k l0 a1 0) else (some false))
def turnstilelaw13_StateLooks.T16 : Bool × List (List Nat × List Nat) := (true, [([], []), ([0], [0]), ([1], [1]), ([2], [2]), ([2], [2]), ([4, 2], [2, 4]), ([3, 5, 2], [2, 3, 5]), ([6, 2], [2, 6]), ([2], [2]), ([7, 8, 2, 2], [2, 7, 8]), ([2], [2]), ([2], [2]), ([11, 2], [2, 11]), ([10, 12, 2], [2, 10, 12]), ([13, 2], [2, 13]), ([2], [2]), ([14, 15, 9, 2], [2, 14, 15]), ([9, 16, 2], [2, 9, 16]), ([17, 16, 2], [2, 17]), ([18], [18]), ([18], [18]), ([18], [18]), ([21, 18], [18, 21]), ([20, 22, 18], [18, 20, 22]), ([23, 18], [18, 23]), ([19, 24, 18, 18], [18, 19, 24]), ([18], [18]), ([18], [18]), ([18], [18]), ([28, 18], [18, 28]), ([27, 29, 18], [18, 27, 29]), ([30, 18], [18, 30]), ([26, 31, 25, 18], [18, 26, 31]), ([25, 32, 18], [18, 25, 32]), ([18, 33, 2], [2, 18, 33]), ([2, 34], [2, 34])])
def turnstilelaw13_StateLooks.B16 : List Nat := [0, 1, 3, 7, 7, 23, 63, 127, 7, 511, 7, 7, 2055, 7175, 15367, 7, 65535, 131071, 262143, 524287, 524287, 524287, 2621439, 7864319, 16252927, 33554431, 524287, 524287, 524287, 268959743, 940048383, 2013790207, 4294967295, 8589934591, 17179869183, 34359738367]
theorem turnstilelaw13_StateLooks.tab16 : rtab .any (opsOf Tryd.f3 16) = turnstilelaw13_StateLooks.T16 := by kernel_rfl
theorem turnstilelaw13_StateLooks.bits16 : waitsOk turnstilelaw13_StateLooks.T16.2 turnstilelaw13_StateLooks.B16 = true := by kernel_rfl
set_option maxHeartbeats 8000000 in
set_option maxRecDepth 100000 in
theorem turnstilelaw13_StateLooks.calls (k : Nat) [Errs] (A0 : Option Addr) (c0 : Nat) (l0 : List (S27)) (a1 : ByteArray) (r : Bool) (w : World) (hE : Sent w) (hr0 : Kd.C k27 w A0 l0.length l0) (hc0 : l0.length ≤ c0) (h : turnstilelaw13_StateLooks.f k l0 a1 = some r) :
    Calls Tryd.prog 3 #[.slice A0 l0.length c0, .string a1] w fun e w' => e = .returned (.bool r) ∧ Below w.heap.size w w' := by
  have hu27 := Tryd.underlying27
  have HR0 := Aside0.mk hr0
  have HC0 := Aside0.mk hc0
  clear hr0 hc0
  have HERR := Aside0.mk hE
  clear hE
  have HB := Aside0.mk (Below.refl w.heap.size w)
  have H : ((turnstilelaw13_lives.f).bind fun t272 => (if t272 = true then (turnstilelaw13_StateLooks.l0 k l0 a1 0) else (some false))) = some r := h
  clear h
  replace H := Option.bind_eq_some_iff.mp H
  obtain ⟨t272, A30, H⟩ := H
  replace H : (if t272 = true then (turnstilelaw13_StateLooks.l0 k l0 a1 0) else (some false)) = some r := H
  have A3 := Aside0.mk A30
  clear A30
  by_cases c4 : t272 = true
  · subst c4
    have H1 : (turnstilelaw13_StateLooks.l0 k l0 a1 0) = some r := by rw [if_pos rfl] at H; exact H
    clear H
    have H := H1
    clear H1
    have H' := Aside0.mk H
    clear H
    go_enter Tryd.func3, Tryd.ntmps3
    go_wp2_with (first | ((with_reducible refine gate_callee (f := 8) rfl ?_); refine gl (some 12) Tryd.func8 #[] ?_; (with_reducible refine (turnstilelaw13_lives.calls  true _ ?side1 A3.out).mono ?_); (case side1 => exact (HERR.out.below (bw HB))); rintro e w5 ⟨rfl, hb⟩; refine ⟨_, rfl, ?_⟩; have n0_ := bs HB hb; clear HB; have HB := n0_; clear n0_; (try clear hb); (try clear hb2); (try clear hk); (try clear hi)))
    go_loopg [5] k (fun kq v5 w' => ∃ (x5_1 : Int), v5 = .int .i64 x5_1 ∧ Aside0 (turnstilelaw13_StateLooks.l0 kq l0 a1 x5_1 = some r) ∧ Aside0 (kq ≤ k) ∧ Aside0 (Below w.heap.size w w'))
    case atStart => exact ⟨(0), rs, H', ⟨Nat.le_refl _⟩, ⟨bw HB⟩⟩
    case round =>
      clear H'
      try clear p2
      try clear c3
      try clear c4
      obtain ⟨x5_1, rfl, HA, HK1, HB⟩ := hrel
      cases gk with
      | zero => exact absurd HA.out (by simp [turnstilelaw13_StateLooks.l0])
      | succ k1 =>
        have H := HA.out
        clear HA
        simp only [turnstilelaw13_StateLooks.l0] at H
        by_cases c6 : x5_1 < (l0.length : Int)
        · rw [if_pos c6] at H
          have c6b0 : decide (x5_1 < (l0.length : Int)) = true := decide_eq_true c6
          clear c6
          by_cases c7 : 0 ≤ x5_1
          · rw [if_pos c7] at H
            have c7b0 : decide (0 ≤ x5_1) = true := decide_eq_true c7
            clear c7
            replace H := Option.bind_eq_some_iff.mp H
            obtain ⟨t275, A80, H⟩ := H
            replace H : ((state_Valid.f ((rd_T27 l0 x5_1).f0) ((rd_T27 l0 x5_1).f1) ((rd_T27 l0 x5_1).f2)).bind fun t276 => (if (t276 != t275) = true then (some false) else ((state_Find.f ((rd_T27 l0 x5_1).f0) ((rd_T27 l0 x5_1).f1) ((rd_T27 l0 x5_1).f2) a1).bind fun bt277 => ((turnstileref13_Find.f k1 ((rd_T27 l0 x5_1).f0) ((rd_T27 l0 x5_1).f1) ((rd_T27 l0 x5_1).f2) a1).bind fun bt279 => (if t275 = true then (if bt277.1 = bt279.1 then (turnstilelaw13_StateLooks.j1 k1 l0 a1 x5_1 (bt277.2 != bt279.2) ((rd_T27 l0 x5_1).f0) ((rd_T27 l0 x5_1).f1) ((rd_T27 l0 x5_1).f2)) else (turnstilelaw13_StateLooks.j1 k1 l0 a1 x5_1 true ((rd_T27 l0 x5_1).f0) ((rd_T27 l0 x5_1).f1) ((rd_T27 l0 x5_1).f2))) else (turnstilelaw13_StateLooks.j1 k1 l0 a1 x5_1 false ((rd_T27 l0 x5_1).f0) ((rd_T27 l0 x5_1).f1) ((rd_T27 l0 x5_1).f2))))))) = some r := H
            have A8 := Aside0.mk A80
            clear A80
            replace H := Option.bind_eq_some_iff.mp H
            obtain ⟨t276, A90, H⟩ := H
            replace H : (if (t276 != t275) = true then (some false) else ((state_Find.f ((rd_T27 l0 x5_1).f0) ((rd_T27 l0 x5_1).f1) ((rd_T27 l0 x5_1).f2) a1).bind fun bt277 => ((turnstileref13_Find.f k1 ((rd_T27 l0 x5_1).f0) ((rd_T27 l0 x5_1).f1) ((rd_T27 l0 x5_1).f2) a1).bind fun bt279 => (if t275 = true then (if bt277.1 = bt279.1 then (turnstilelaw13_StateLooks.j1 k1 l0 a1 x5_1 (bt277.2 != bt279.2) ((rd_T27 l0 x5_1).f0) ((rd_T27 l0 x5_1).f1) ((rd_T27 l0 x5_1).f2)) else (turnstilelaw13_StateLooks.j1 k1 l0 a1 x5_1 true ((rd_T27 l0 x5_1).f0) ((rd_T27 l0 x5_1).f1) ((rd_T27 l0 x5_1).f2))) else (turnstilelaw13_StateLooks.j1 k1 l0 a1 x5_1 false ((rd_T27 l0 x5_1).f0) ((rd_T27 l0 x5_1).f1) ((rd_T27 l0 x5_1).f2)))))) = some r := H
            have A9 := Aside0.mk A90
            clear A90
            by_cases c10 : (t276 != t275) = true
            · rw [if_pos c10] at H
              have c10b0 : (t276 != t275) = true := c10
              (try (have c10b1 : decide (t276 = t275) = false := by simpa using c10))
              (try (have c10b2 : (t276 == t275) = false := by simpa using c10))
              (try (have c10b3 : ¬ (t276 = t275) := by simpa using c10))
              clear c10
              obtain rfl := Option.some.inj H
              have p273 : 0 ≤ (x5_1 : Int) := of_decide_eq_true (by first | (with_reducible assumption) | assumption)
              have q273 : x5_1 < (l0.length : Int) := of_decide_eq_true (by first | (with_reducible assumption) | assumption)
              obtain ⟨ad273, A273_2, c273_2, e273, hx273_0, hx273_1, hx273_2, hl273_2, hi273_2⟩ := at_T27 HR0.out x5_1 p273 q273
              cases e273
              replace hx273_0 := (HB.out.cell (World.block_lt_of_cell? w _ hx273_0)).trans hx273_0
              replace hx273_1 := (HB.out.cell (World.block_lt_of_cell? w _ hx273_1)).trans hx273_1
              replace hx273_2 := (HB.out.cell (World.block_lt_of_cell? w _ hx273_2)).trans hx273_2
              have HR273_2 := Aside0.mk hi273_2
              have HC273_2 := Aside0.mk hl273_2
              clear hi273_2 hl273_2
              replace p273 := eq_true p273
              replace q273 := eq_true q273
              go_wp2_with (first | ((with_reducible refine gate_dst (N := 6) rfl ?_); refine bx 6 #[.int .u64 0, .int .u64 0, .slice none 0 0] 27 ?_; intro gb274 hg w11 hbox hb; have n0_ := bs HB hb; have n1_ := Aside0.mk (hbox); have n2_ := sz HB hg; have n3_ := sz HB hg; clear HB; have HB := n0_; have BK274 := n1_; have GW274 := n2_; have GE274 := n3_; clear n0_ n1_ n2_ n3_; clear hb hbox hg; obtain ⟨hcz12_0, hcz12_1, hcz12_2, hfz12_0, hfz12_1, hfz12_2⟩ := bc3 BK274) | ((with_reducible refine gate_callee (f := 9) rfl ?_); refine gl (some 25) Tryd.func9 #[.agg #[.int .u64 ((rd_T27 l0 x5_1).f0), .int .u64 ((rd_T27 l0 x5_1).f1), .slice A273_2 ((rd_T27 l0 x5_1).f2).length c273_2]] ?_; (with_reducible refine (turnstileref13_Valid.calls k1 ((rd_T27 l0 x5_1).f0) ((rd_T27 l0 x5_1).f1) _ _ ((rd_T27 l0 x5_1).f2) t275 _ ?side1 ?side2 A8.out).mono ?_); (case side1 => exact Kd.C_below HR273_2.out (bw HB)); (case side2 => exact HC273_2.out); rintro e w13 ⟨rfl, hb⟩; refine ⟨_, rfl, ?_⟩; have n0_ := bbp (.cells #[.int .u64 ((rd_T27 l0 x5_1).f0), .int .u64 ((rd_T27 l0 x5_1).f1), .slice A273_2 ((rd_T27 l0 x5_1).f2).length c273_2] 27 (0, 0)) BK274 hb; have n1_ := bs HB hb; clear BK274; clear HB; have BK274 := n0_; have HB := n1_; clear n0_ n1_; (try clear hb); (try clear hb2); (try clear hk); (try clear hi); obtain ⟨hcz14_0, hcz14_1, hcz14_2, hfz14_0, hfz14_1, hfz14_2⟩ := bc3 BK274) | ((with_reducible refine gate_callee (f := 10) rfl ?_); refine gl (some 27) Tryd.func10 #[.agg #[.int .u64 ((rd_T27 l0 x5_1).f0), .int .u64 ((rd_T27 l0 x5_1).f1), .slice A273_2 ((rd_T27 l0 x5_1).f2).length c273_2]] ?_; (with_reducible refine (state_Valid.calls ((rd_T27 l0 x5_1).f0) ((rd_T27 l0 x5_1).f1) _ _ ((rd_T27 l0 x5_1).f2) t276 _ ?side1 ?side2 A9.out).mono ?_); (case side1 => exact co (Kd.C_below HR273_2.out HB.out)); (case side2 => exact HC273_2.out); rintro e w15 ⟨rfl, hb⟩; refine ⟨_, rfl, ?_⟩; have n0_ := bb BK274 hb; have n1_ := bs HB hb; clear BK274; clear HB; have BK274 := n0_; have HB := n1_; clear n0_ n1_; (try clear hb); (try clear hb2); (try clear hk); (try clear hi)))
              go_ret
              exact ⟨re, bw HB⟩
            · rw [if_neg c10] at H
              have c10b0 : (t276 != t275) = false := by simpa using c10
              (try (have c10b1 : decide (t276 = t275) = true := by simpa using c10))
              (try (have c10b2 : (t276 == t275) = true := by simpa using c10))
              clear c10
              replace H := Option.bind_eq_some_iff.mp H
              obtain ⟨⟨t277, t278⟩, A160, H⟩ := H
              replace H : ((turnstileref13_Find.f k1 ((rd_T27 l0 x5_1).f0) ((rd_T27 l0 x5_1).f1) ((rd_T27 l0 x5_1).f2) a1).bind fun bt279 => (if t275 = true then (if t277 = bt279.1 then (turnstilelaw13_StateLooks.j1 k1 l0 a1 x5_1 (t278 != bt279.2) ((rd_T27 l0 x5_1).f0) ((rd_T27 l0 x5_1).f1) ((rd_T27 l0 x5_1).f2)) else (turnstilelaw13_StateLooks.j1 k1 l0 a1 x5_1 true ((rd_T27 l0 x5_1).f0) ((rd_T27 l0 x5_1).f1) ((rd_T27 l0 x5_1).f2))) else (turnstilelaw13_StateLooks.j1 k1 l0 a1 x5_1 false ((rd_T27 l0 x5_1).f0) ((rd_T27 l0 x5_1).f1) ((rd_T27 l0 x5_1).f2)))) = some r := H
              have A16 := Aside0.mk A160
              clear A160
              replace H := Option.bind_eq_some_iff.mp H
              obtain ⟨⟨t279, t280⟩, A170, H⟩ := H
              replace H : (if t275 = true then (if t277 = t279 then (turnstilelaw13_StateLooks.j1 k1 l0 a1 x5_1 (t278 != t280) ((rd_T27 l0 x5_1).f0) ((rd_T27 l0 x5_1).f1) ((rd_T27 l0 x5_1).f2)) else (turnstilelaw13_StateLooks.j1 k1 l0 a1 x5_1 true ((rd_T27 l0 x5_1).f0) ((rd_T27 l0 x5_1).f1) ((rd_T27 l0 x5_1).f2))) else (turnstilelaw13_StateLooks.j1 k1 l0 a1 x5_1 false ((rd_T27 l0 x5_1).f0) ((rd_T27 l0 x5_1).f1) ((rd_T27 l0 x5_1).f2))) = some r := H
              have A17 := Aside0.mk A170
              clear A170
              have HC18 := Aside0.mk H
              clear H
              have p273 : 0 ≤ (x5_1 : Int) := of_decide_eq_true (by first | (with_reducible assumption) | assumption)
              have q273 : x5_1 < (l0.length : Int) := of_decide_eq_true (by first | (with_reducible assumption) | assumption)
              obtain ⟨ad273, A273_2, c273_2, e273, hx273_0, hx273_1, hx273_2, hl273_2, hi273_2⟩ := at_T27 HR0.out x5_1 p273 q273
              cases e273
              replace hx273_0 := (HB.out.cell (World.block_lt_of_cell? w _ hx273_0)).trans hx273_0
              replace hx273_1 := (HB.out.cell (World.block_lt_of_cell? w _ hx273_1)).trans hx273_1
              replace hx273_2 := (HB.out.cell (World.block_lt_of_cell? w _ hx273_2)).trans hx273_2
              have HR273_2 := Aside0.mk hi273_2
              have HC273_2 := Aside0.mk hl273_2
              clear hi273_2 hl273_2
              replace p273 := eq_true p273
              replace q273 := eq_true q273
              go_upto_region 12 with (first | ((with_reducible refine gate_dst (N := 6) rfl ?_); refine bx 6 #[.int .u64 0, .int .u64 0, .slice none 0 0] 27 ?_; intro gb274 hg w19 hbox hb; have n0_ := bs HB hb; have n1_ := Aside0.mk (hbox); have n2_ := sz HB hg; have n3_ := sz HB hg; clear HB; have HB := n0_; have BK274 := n1_; have GW274 := n2_; have GE274 := n3_; clear n0_ n1_ n2_ n3_; clear hb hbox hg; obtain ⟨hcz20_0, hcz20_1, hcz20_2, hfz20_0, hfz20_1, hfz20_2⟩ := bc3 BK274) | ((with_reducible refine gate_callee (f := 9) rfl ?_); refine gl (some 25) Tryd.func9 #[.agg #[.int .u64 ((rd_T27 l0 x5_1).f0), .int .u64 ((rd_T27 l0 x5_1).f1), .slice A273_2 ((rd_T27 l0 x5_1).f2).length c273_2]] ?_; (with_reducible refine (turnstileref13_Valid.calls k1 ((rd_T27 l0 x5_1).f0) ((rd_T27 l0 x5_1).f1) _ _ ((rd_T27 l0 x5_1).f2) t275 _ ?side1 ?side2 A8.out).mono ?_); (case side1 => exact Kd.C_below HR273_2.out (bw HB)); (case side2 => exact HC273_2.out); rintro e w21 ⟨rfl, hb⟩; refine ⟨_, rfl, ?_⟩; have n0_ := bbp (.cells #[.int .u64 ((rd_T27 l0 x5_1).f0), .int .u64 ((rd_T27 l0 x5_1).f1), .slice A273_2 ((rd_T27 l0 x5_1).f2).length c273_2] 27 (0, 0)) BK274 hb; have n1_ := bs HB hb; clear BK274; clear HB; have BK274 := n0_; have HB := n1_; clear n0_ n1_; (try clear hb); (try clear hb2); (try clear hk); (try clear hi); obtain ⟨hcz22_0, hcz22_1, hcz22_2, hfz22_0, hfz22_1, hfz22_2⟩ := bc3 BK274) | ((with_reducible refine gate_callee (f := 10) rfl ?_); refine gl (some 27) Tryd.func10 #[.agg #[.int .u64 ((rd_T27 l0 x5_1).f0), .int .u64 ((rd_T27 l0 x5_1).f1), .slice A273_2 ((rd_T27 l0 x5_1).f2).length c273_2]] ?_; (with_reducible refine (state_Valid.calls ((rd_T27 l0 x5_1).f0) ((rd_T27 l0 x5_1).f1) _ _ ((rd_T27 l0 x5_1).f2) t276 _ ?side1 ?side2 A9.out).mono ?_); (case side1 => exact co (Kd.C_below HR273_2.out HB.out)); (case side2 => exact HC273_2.out); rintro e w23 ⟨rfl, hb⟩; refine ⟨_, rfl, ?_⟩; have n0_ := bb BK274 hb; have n1_ := bs HB hb; clear BK274; clear HB; have BK274 := n0_; have HB := n1_; clear n0_ n1_; (try clear hb); (try clear hb2); (try clear hk); (try clear hi); obtain ⟨hcz24_0, hcz24_1, hcz24_2, hfz24_0, hfz24_1, hfz24_2⟩ := bc3 BK274) | ((with_reducible refine gate_callee (f := 11) rfl ?_); refine gl (some 33) Tryd.func11 #[.agg #[.int .u64 ((rd_T27 l0 x5_1).f0), .int .u64 ((rd_T27 l0 x5_1).f1), .slice A273_2 ((rd_T27 l0 x5_1).f2).length c273_2], .string a1] ?_; (with_reducible refine (state_Find.calls ((rd_T27 l0 x5_1).f0) ((rd_T27 l0 x5_1).f1) _ _ ((rd_T27 l0 x5_1).f2) a1 t277 t278 _ ?side1 ?side2 A16.out).mono ?_); (case side1 => exact co (Kd.C_below HR273_2.out HB.out)); (case side2 => exact HC273_2.out); rintro e w25 ⟨rfl, hb⟩; refine ⟨_, rfl, ?_⟩; have n0_ := bb BK274 hb; have n1_ := bs HB hb; clear BK274; clear HB; have BK274 := n0_; have HB := n1_; clear n0_ n1_; (try clear hb); (try clear hb2); (try clear hk); (try clear hi); obtain ⟨hcz26_0, hcz26_1, hcz26_2, hfz26_0, hfz26_1, hfz26_2⟩ := bc3 BK274) | ((with_reducible refine gate_callee (f := 12) rfl ?_); refine gl (some 39) Tryd.func12 #[.agg #[.int .u64 ((rd_T27 l0 x5_1).f0), .int .u64 ((rd_T27 l0 x5_1).f1), .slice A273_2 ((rd_T27 l0 x5_1).f2).length c273_2], .string a1] ?_; (with_reducible refine (turnstileref13_Find.calls k1 ((rd_T27 l0 x5_1).f0) ((rd_T27 l0 x5_1).f1) _ _ ((rd_T27 l0 x5_1).f2) a1 t279 t280 _ ?side1 ?side2 A17.out).mono ?_); (case side1 => exact co (Kd.C_below HR273_2.out HB.out)); (case side2 => exact HC273_2.out); rintro e w27 ⟨rfl, hb⟩; refine ⟨_, rfl, ?_⟩; have n0_ := bb BK274 hb; have n1_ := bs HB hb; clear BK274; clear HB; have BK274 := n0_; have HB := n1_; clear n0_ n1_; (try clear hb); (try clear hb2); (try clear hk); (try clear hi)))
              (try simp only [Act.put, List.setIfInBounds_toArray, List.set_cons_zero, List.set_cons_succ])
              go_cut [52] (fun v52 wc => ∃ (kq : Nat) (x52_17 : Bool), v52 = .bool x52_17 ∧ Aside0 (turnstilelaw13_StateLooks.j1 kq l0 a1 x5_1 x52_17 ((rd_T27 l0 x5_1).f0) ((rd_T27 l0 x5_1).f1) ((rd_T27 l0 x5_1).f2) = some r) ∧ Aside0 (kq ≤ k1) ∧ Aside0 (wc.heap[gb274]? = some (.cells #[.int .u64 ((rd_T27 l0 x5_1).f0), .int .u64 ((rd_T27 l0 x5_1).f1), (.slice A273_2 ((rd_T27 l0 x5_1).f2).length c273_2)] 27 (0, 0))) ∧ Aside0 (Below w.heap.size w wc))
              case first =>
                have H := HC18.out
                clear HC18
                by_cases c28 : t275 = true
                · subst c28
                  have H1 : (if t277 = t279 then (turnstilelaw13_StateLooks.j1 k1 l0 a1 x5_1 (t278 != t280) ((rd_T27 l0 x5_1).f0) ((rd_T27 l0 x5_1).f1) ((rd_T27 l0 x5_1).f2)) else (turnstilelaw13_StateLooks.j1 k1 l0 a1 x5_1 true ((rd_T27 l0 x5_1).f0) ((rd_T27 l0 x5_1).f1) ((rd_T27 l0 x5_1).f2))) = some r := by rw [if_pos rfl] at H; exact H
                  clear H
                  have H := H1
                  clear H1
                  by_cases c29 : t277 = t279
                  · rw [if_pos c29] at H
                    have c29b0 : (t277 == t279) = true := beq_iff_eq.mpr c29
                    have c29b1 : (t277 != t279) = false := bne_eq_false_iff_eq.mpr c29
                    clear c29
                    (first | rw [c29b0] | (simp only [i64_w, i32_w]; rw [c29b0]) | skip)
                    have H' := Aside0.mk H
                    clear H
                    go_wp2
                    go_meet
                    case rel => exact ⟨_, ((t278 != t280)), rs, H', ⟨by have := HK1.out; first | omega | exact Nat.le_refl _⟩, ⟨bk BK274⟩, ⟨bw HB⟩⟩
                  · rw [if_neg c29] at H
                    have c29b0 : (t277 == t279) = false := beq_eq_false_iff_ne.mpr c29
                    have c29b1 : (t277 != t279) = true := bne_iff_ne.mpr c29
                    (first | rw [c29b0] | (simp only [i64_w, i32_w]; rw [c29b0]) | skip)
                    have H' := Aside0.mk H
                    clear H
                    go_wp2
                    go_meet
                    case rel => exact ⟨_, (true), rs, H', ⟨by have := HK1.out; first | omega | exact Nat.le_refl _⟩, ⟨bk BK274⟩, ⟨bw HB⟩⟩
                · replace c28 := Bool.eq_false_iff.mpr c28
                  subst c28
                  have H1 : (turnstilelaw13_StateLooks.j1 k1 l0 a1 x5_1 false ((rd_T27 l0 x5_1).f0) ((rd_T27 l0 x5_1).f1) ((rd_T27 l0 x5_1).f2)) = some r := by rw [if_neg (show ¬ (false = true) by decide)] at H; exact H
                  clear H
                  have H := H1
                  clear H1
                  have H' := Aside0.mk H
                  clear H
                  go_wp2
                  go_meet
                  case rel => exact ⟨_, (false), rs, H', ⟨by have := HK1.out; first | omega | exact Nat.le_refl _⟩, ⟨bk BK274⟩, ⟨bw HB⟩⟩
              case rest =>
                clear HC18
                try clear c1
                try clear c2
                try clear p2
                try clear q2
                try clear hx2
                try clear c3
                try clear c4
                try clear c6
                try clear c6b0
                try clear c7
                try clear c7b0
                try clear c8
                try clear c9
                try clear c10
                try clear c10b0
                try clear c10b1
                try clear c10b2
                try clear c11
                try clear c12
                try clear c27
                try clear p27
                try clear q27
                try clear hx27
                try clear c28
                try clear c29
                try clear c29b0
                try clear c29b1
                try clear hcz12_0
                try clear hcz12_1
                try clear hcz12_2
                try clear hcz14_0
                try clear hcz14_1
                try clear hcz14_2
                try clear hcz20_0
                try clear hcz20_1
                try clear hcz20_2
                try clear hcz22_0
                try clear hcz22_1
                try clear hcz22_2
                try clear hcz24_0
                try clear hcz24_1
                try clear hcz24_2
                try clear hcz26_0
                try clear hcz26_1
                try clear hcz26_2
                try clear hfz12_0
                try clear hfz12_1
                try clear hfz12_2
                try clear hfz14_0
                try clear hfz14_1
                try clear hfz14_2
                try clear hfz20_0
                try clear hfz20_1
                try clear hfz20_2
                try clear hfz22_0
                try clear hfz22_1
                try clear hfz22_2
                try clear hfz24_0
                try clear hfz24_1
                try clear hfz24_2
                try clear hfz26_0
                try clear hfz26_1
                try clear hfz26_2
                try clear hx273_0
                try clear hx273_1
                try clear hx273_2
                try clear p2
                try clear p273
                try clear q273
                obtain ⟨kq, x52_17, rfl, HA, HJ17, BK274, HB⟩ := hcut
                cases kq with
                | zero => exact absurd HA.out (by simp [turnstilelaw13_StateLooks.j1])
                | succ kj17 =>
                  have H := HA.out
                  clear HA
                  simp only [turnstilelaw13_StateLooks.j1] at H
                  by_cases c30 : x52_17 = true
                  · subst c30
                    have H1 : (some false) = some r := by rw [if_pos rfl] at H; exact H
                    clear H
                    have H := H1
                    clear H1
                    obtain rfl := Option.some.inj H
                    go_wp2
                    go_ret
                    exact ⟨re, bw HB⟩
                  · replace c30 := Bool.eq_false_iff.mpr c30
                    subst c30
                    have H1 : ((state_Equal.f kj17 ((rd_T27 l0 x5_1).f0) ((rd_T27 l0 x5_1).f1) ((rd_T27 l0 x5_1).f2) ((rd_T27 l0 x5_1).f0) ((rd_T27 l0 x5_1).f1) ((rd_T27 l0 x5_1).f2)).bind fun t281 => (if t281 = true then (if x5_1 > 0 then (if 0 ≤ (wrap64 (x5_1 - 1)) then (if (wrap64 (x5_1 - 1)) < (l0.length : Int) then ((state_Equal.f kj17 ((rd_T27 l0 (wrap64 (x5_1 - 1))).f0) ((rd_T27 l0 (wrap64 (x5_1 - 1))).f1) ((rd_T27 l0 (wrap64 (x5_1 - 1))).f2) ((rd_T27 l0 x5_1).f0) ((rd_T27 l0 x5_1).f1) ((rd_T27 l0 x5_1).f2)).bind fun t283 => ((turnstileref13_Equal.f kj17 ((rd_T27 l0 (wrap64 (x5_1 - 1))).f0) ((rd_T27 l0 (wrap64 (x5_1 - 1))).f1) ((rd_T27 l0 (wrap64 (x5_1 - 1))).f2) ((rd_T27 l0 x5_1).f0) ((rd_T27 l0 x5_1).f1) ((rd_T27 l0 x5_1).f2)).bind fun t285 => (if (t283 != t285) = true then (some false) else ((state_Equal.f kj17 ((rd_T27 l0 x5_1).f0) ((rd_T27 l0 x5_1).f1) ((rd_T27 l0 x5_1).f2) ((rd_T27 l0 (wrap64 (x5_1 - 1))).f0) ((rd_T27 l0 (wrap64 (x5_1 - 1))).f1) ((rd_T27 l0 (wrap64 (x5_1 - 1))).f2)).bind fun t287 => ((turnstileref13_Equal.f kj17 ((rd_T27 l0 x5_1).f0) ((rd_T27 l0 x5_1).f1) ((rd_T27 l0 x5_1).f2) ((rd_T27 l0 (wrap64 (x5_1 - 1))).f0) ((rd_T27 l0 (wrap64 (x5_1 - 1))).f1) ((rd_T27 l0 (wrap64 (x5_1 - 1))).f2)).bind fun t289 => (if (t287 != t289) = true then (some false) else (turnstilelaw13_StateLooks.l0 kj17 l0 a1 (wrap64 (x5_1 + 1))))))))) else (none)) else (none)) else (turnstilelaw13_StateLooks.l0 kj17 l0 a1 (wrap64 (x5_1 + 1)))) else (some false))) = some r := by rw [if_neg (show ¬ (false = true) by decide)] at H; exact H
                    clear H
                    have H := H1
                    clear H1
                    replace H := Option.bind_eq_some_iff.mp H
                    obtain ⟨t281, A310, H⟩ := H
                    replace H : (if t281 = true then (if x5_1 > 0 then (if 0 ≤ (wrap64 (x5_1 - 1)) then (if (wrap64 (x5_1 - 1)) < (l0.length : Int) then ((state_Equal.f kj17 ((rd_T27 l0 (wrap64 (x5_1 - 1))).f0) ((rd_T27 l0 (wrap64 (x5_1 - 1))).f1) ((rd_T27 l0 (wrap64 (x5_1 - 1))).f2) ((rd_T27 l0 x5_1).f0) ((rd_T27 l0 x5_1).f1) ((rd_T27 l0 x5_1).f2)).bind fun t283 => ((turnstileref13_Equal.f kj17 ((rd_T27 l0 (wrap64 (x5_1 - 1))).f0) ((rd_T27 l0 (wrap64 (x5_1 - 1))).f1) ((rd_T27 l0 (wrap64 (x5_1 - 1))).f2) ((rd_T27 l0 x5_1).f0) ((rd_T27 l0 x5_1).f1) ((rd_T27 l0 x5_1).f2)).bind fun t285 => (if (t283 != t285) = true then (some false) else ((state_Equal.f kj17 ((rd_T27 l0 x5_1).f0) ((rd_T27 l0 x5_1).f1) ((rd_T27 l0 x5_1).f2) ((rd_T27 l0 (wrap64 (x5_1 - 1))).f0) ((rd_T27 l0 (wrap64 (x5_1 - 1))).f1) ((rd_T27 l0 (wrap64 (x5_1 - 1))).f2)).bind fun t287 => ((turnstileref13_Equal.f kj17 ((rd_T27 l0 x5_1).f0) ((rd_T27 l0 x5_1).f1) ((rd_T27 l0 x5_1).f2) ((rd_T27 l0 (wrap64 (x5_1 - 1))).f0) ((rd_T27 l0 (wrap64 (x5_1 - 1))).f1) ((rd_T27 l0 (wrap64 (x5_1 - 1))).f2)).bind fun t289 => (if (t287 != t289) = true then (some false) else (turnstilelaw13_StateLooks.l0 kj17 l0 a1 (wrap64 (x5_1 + 1))))))))) else (none)) else (none)) else (turnstilelaw13_StateLooks.l0 kj17 l0 a1 (wrap64 (x5_1 + 1)))) else (some false)) = some r := H
                    have A31 := Aside0.mk A310
                    clear A310
                    by_cases c32 : t281 = true
                    · subst c32
                      have H1 : (if x5_1 > 0 then (if 0 ≤ (wrap64 (x5_1 - 1)) then (if (wrap64 (x5_1 - 1)) < (l0.length : Int) then ((state_Equal.f kj17 ((rd_T27 l0 (wrap64 (x5_1 - 1))).f0) ((rd_T27 l0 (wrap64 (x5_1 - 1))).f1) ((rd_T27 l0 (wrap64 (x5_1 - 1))).f2) ((rd_T27 l0 x5_1).f0) ((rd_T27 l0 x5_1).f1) ((rd_T27 l0 x5_1).f2)).bind fun t283 => ((turnstileref13_Equal.f kj17 ((rd_T27 l0 (wrap64 (x5_1 - 1))).f0) ((rd_T27 l0 (wrap64 (x5_1 - 1))).f1) ((rd_T27 l0 (wrap64 (x5_1 - 1))).f2) ((rd_T27 l0 x5_1).f0) ((rd_T27 l0 x5_1).f1) ((rd_T27 l0 x5_1).f2)).bind fun t285 => (if (t283 != t285) = true then (some false) else ((state_Equal.f kj17 ((rd_T27 l0 x5_1).f0) ((rd_T27 l0 x5_1).f1) ((rd_T27 l0 x5_1).f2) ((rd_T27 l0 (wrap64 (x5_1 - 1))).f0) ((rd_T27 l0 (wrap64 (x5_1 - 1))).f1) ((rd_T27 l0 (wrap64 (x5_1 - 1))).f2)).bind fun t287 => ((turnstileref13_Equal.f kj17 ((rd_T27 l0 x5_1).f0) ((rd_T27 l0 x5_1).f1) ((rd_T27 l0 x5_1).f2) ((rd_T27 l0 (wrap64 (x5_1 - 1))).f0) ((rd_T27 l0 (wrap64 (x5_1 - 1))).f1) ((rd_T27 l0 (wrap64 (x5_1 - 1))).f2)).bind fun t289 => (if (t287 != t289) = true then (some false) else (turnstilelaw13_StateLooks.l0 kj17 l0 a1 (wrap64 (x5_1 + 1))))))))) else (none)) else (none)) else (turnstilelaw13_StateLooks.l0 kj17 l0 a1 (wrap64 (x5_1 + 1)))) = some r := by rw [if_pos rfl] at H; exact H
                      clear H
                      have H := H1
                      clear H1
                      by_cases c33 : x5_1 > 0
                      · rw [if_pos c33] at H
                        have c33b0 : decide (0 < x5_1) = true := decide_eq_true c33
                        clear c33
                        obtain ⟨ji34, hji34⟩ : ∃ j_ : Int, (wrap64 (x5_1 - 1)) = j_ := ⟨_, rfl⟩
                        replace H : (if 0 ≤ (ji34) then (if (ji34) < (l0.length : Int) then ((state_Equal.f kj17 ((rd_T27 l0 (ji34)).f0) ((rd_T27 l0 (ji34)).f1) ((rd_T27 l0 (ji34)).f2) ((rd_T27 l0 x5_1).f0) ((rd_T27 l0 x5_1).f1) ((rd_T27 l0 x5_1).f2)).bind fun t283 => ((turnstileref13_Equal.f kj17 ((rd_T27 l0 (ji34)).f0) ((rd_T27 l0 (ji34)).f1) ((rd_T27 l0 (ji34)).f2) ((rd_T27 l0 x5_1).f0) ((rd_T27 l0 x5_1).f1) ((rd_T27 l0 x5_1).f2)).bind fun t285 => (if (t283 != t285) = true then (some false) else ((state_Equal.f kj17 ((rd_T27 l0 x5_1).f0) ((rd_T27 l0 x5_1).f1) ((rd_T27 l0 x5_1).f2) ((rd_T27 l0 (ji34)).f0) ((rd_T27 l0 (ji34)).f1) ((rd_T27 l0 (ji34)).f2)).bind fun t287 => ((turnstileref13_Equal.f kj17 ((rd_T27 l0 x5_1).f0) ((rd_T27 l0 x5_1).f1) ((rd_T27 l0 x5_1).f2) ((rd_T27 l0 (ji34)).f0) ((rd_T27 l0 (ji34)).f1) ((rd_T27 l0 (ji34)).f2)).bind fun t289 => (if (t287 != t289) = true then (some false) else (turnstilelaw13_StateLooks.l0 kj17 l0 a1 (wrap64 (x5_1 + 1))))))))) else (none)) else (none)) = some r := by first | (rw [hji34] at H; exact H) | (simp only [hji34] at H ⊢; exact H)
                        (try rw [hji34] at A31)
                        have hji34w : (IntKind.i64.wrap (x5_1 - 1)) = ji34 := (i64_w _).trans hji34
                        by_cases c35 : 0 ≤ (ji34)
                        · rw [if_pos c35] at H
                          have c35b0 : decide (0 ≤ (ji34)) = true := decide_eq_true c35
                          clear c35
                          by_cases c36 : (ji34) < (l0.length : Int)
                          · rw [if_pos c36] at H
                            have c36b0 : decide ((ji34) < (l0.length : Int)) = true := decide_eq_true c36
                            clear c36
                            replace H := Option.bind_eq_some_iff.mp H
                            obtain ⟨t283, A370, H⟩ := H
                            replace H : ((turnstileref13_Equal.f kj17 ((rd_T27 l0 (ji34)).f0) ((rd_T27 l0 (ji34)).f1) ((rd_T27 l0 (ji34)).f2) ((rd_T27 l0 x5_1).f0) ((rd_T27 l0 x5_1).f1) ((rd_T27 l0 x5_1).f2)).bind fun t285 => (if (t283 != t285) = true then (some false) else ((state_Equal.f kj17 ((rd_T27 l0 x5_1).f0) ((rd_T27 l0 x5_1).f1) ((rd_T27 l0 x5_1).f2) ((rd_T27 l0 (ji34)).f0) ((rd_T27 l0 (ji34)).f1) ((rd_T27 l0 (ji34)).f2)).bind fun t287 => ((turnstileref13_Equal.f kj17 ((rd_T27 l0 x5_1).f0) ((rd_T27 l0 x5_1).f1) ((rd_T27 l0 x5_1).f2) ((rd_T27 l0 (ji34)).f0) ((rd_T27 l0 (ji34)).f1) ((rd_T27 l0 (ji34)).f2)).bind fun t289 => (if (t287 != t289) = true then (some false) else (turnstilelaw13_StateLooks.l0 kj17 l0 a1 (wrap64 (x5_1 + 1)))))))) = some r := H
                            have A37 := Aside0.mk A370
                            clear A370
                            replace H := Option.bind_eq_some_iff.mp H
                            obtain ⟨t285, A380, H⟩ := H
                            replace H : (if (t283 != t285) = true then (some false) else ((state_Equal.f kj17 ((rd_T27 l0 x5_1).f0) ((rd_T27 l0 x5_1).f1) ((rd_T27 l0 x5_1).f2) ((rd_T27 l0 (ji34)).f0) ((rd_T27 l0 (ji34)).f1) ((rd_T27 l0 (ji34)).f2)).bind fun t287 => ((turnstileref13_Equal.f kj17 ((rd_T27 l0 x5_1).f0) ((rd_T27 l0 x5_1).f1) ((rd_T27 l0 x5_1).f2) ((rd_T27 l0 (ji34)).f0) ((rd_T27 l0 (ji34)).f1) ((rd_T27 l0 (ji34)).f2)).bind fun t289 => (if (t287 != t289) = true then (some false) else (turnstilelaw13_StateLooks.l0 kj17 l0 a1 (wrap64 (x5_1 + 1))))))) = some r := H
                            have A38 := Aside0.mk A380
                            clear A380
                            by_cases c39 : (t283 != t285) = true
                            · rw [if_pos c39] at H
                              have c39b0 : (t283 != t285) = true := c39
                              (try (have c39b1 : decide (t283 = t285) = false := by simpa using c39))
                              (try (have c39b2 : (t283 == t285) = false := by simpa using c39))
                              (try (have c39b3 : ¬ (t283 = t285) := by simpa using c39))
                              clear c39
                              obtain rfl := Option.some.inj H
                              obtain ⟨hcz40_0, hcz40_1, hcz40_2, hfz40_0, hfz40_1, hfz40_2⟩ := bc3 BK274
                              try go_wp2_with (first | ((with_reducible refine gate_callee (f := 13) rfl ?_); refine gl (some 55) Tryd.func13 #[.agg #[.int .u64 ((rd_T27 l0 x5_1).f0), .int .u64 ((rd_T27 l0 x5_1).f1), .slice A273_2 ((rd_T27 l0 x5_1).f2).length c273_2], .agg #[.int .u64 ((rd_T27 l0 x5_1).f0), .int .u64 ((rd_T27 l0 x5_1).f1), .slice A273_2 ((rd_T27 l0 x5_1).f2).length c273_2]] ?_; (with_reducible refine (state_Equal.calls kj17 ((rd_T27 l0 x5_1).f0) ((rd_T27 l0 x5_1).f1) _ _ ((rd_T27 l0 x5_1).f2) ((rd_T27 l0 x5_1).f0) ((rd_T27 l0 x5_1).f1) _ _ ((rd_T27 l0 x5_1).f2) true _ ?side1 ?side2 ?side3 ?side4 A31.out).mono ?_); (case side1 => exact co (Kd.C_below HR273_2.out HB.out)); (case side2 => exact HC273_2.out); (case side3 => exact co (Kd.C_below HR273_2.out HB.out)); (case side4 => exact HC273_2.out); rintro e w41 ⟨rfl, hb⟩; refine ⟨_, rfl, ?_⟩; have n0_ := bb BK274 hb; have n1_ := bs HB hb; clear BK274; clear HB; have BK274 := n0_; have HB := n1_; clear n0_ n1_; (try clear hb); (try clear hb2); (try clear hk); (try clear hi)))
                              have n0_ := Aside0.mk (blk_drew BK274.out)
                              have n1_ := Aside0.mk (below_drew1 HB.out)
                              clear BK274
                              clear HB
                              have BK274 := n0_
                              have HB := n1_
                              clear n0_ n1_
                              have p282 : 0 ≤ ((ji34) : Int) := of_decide_eq_true (by first | (with_reducible assumption) | assumption)
                              have q282 : (ji34) < (l0.length : Int) := of_decide_eq_true (by first | (with_reducible assumption) | assumption)
                              obtain ⟨ad282, A282_2, c282_2, e282, hx282_0, hx282_1, hx282_2, hl282_2, hi282_2⟩ := at_T27 HR0.out (ji34) p282 q282
                              have hw282_2 := hx282_2
                              have hw282_1 := hx282_1
                              have hw282_0 := hx282_0
                              obtain rfl : ad273 = ad282 := (by injection e282)
                              replace hx282_0 := (HB.out.cell (World.block_lt_of_cell? w _ hx282_0)).trans hx282_0
                              replace hx282_1 := (HB.out.cell (World.block_lt_of_cell? w _ hx282_1)).trans hx282_1
                              replace hx282_2 := (HB.out.cell (World.block_lt_of_cell? w _ hx282_2)).trans hx282_2
                              have HR282_2 := Aside0.mk hi282_2
                              have HC282_2 := Aside0.mk hl282_2
                              clear hi282_2 hl282_2
                              replace p282 := eq_true p282
                              replace q282 := eq_true q282
                              have p284 : 0 ≤ ((ji34) : Int) := of_decide_eq_true (by first | (with_reducible assumption) | assumption)
                              have q284 : (ji34) < (l0.length : Int) := of_decide_eq_true (by first | (with_reducible assumption) | assumption)
                              obtain ⟨ad284, A284_2, c284_2, e284, hx284_0, hx284_1, hx284_2, hl284_2, hi284_2⟩ := at_T27 HR0.out (ji34) p284 q284
                              have hw284_2 := hx284_2
                              have hw284_1 := hx284_1
                              have hw284_0 := hx284_0
                              obtain rfl : ad273 = ad284 := (by injection e284)
                              replace hx284_0 := (HB.out.cell (World.block_lt_of_cell? w _ hx284_0)).trans hx284_0
                              replace hx284_1 := (HB.out.cell (World.block_lt_of_cell? w _ hx284_1)).trans hx284_1
                              replace hx284_2 := (HB.out.cell (World.block_lt_of_cell? w _ hx284_2)).trans hx284_2
                              have HR284_2 := Aside0.mk hi284_2
                              have HC284_2 := Aside0.mk hl284_2
                              clear hi284_2 hl284_2
                              replace p284 := eq_true p284
                              replace q284 := eq_true q284
                              have ea_ := Option.some.inj (hx282_2.symm.trans hx284_2)
                              injection ea_ with ea_ en_ ec_
                              subst ea_
                              subst ec_
                              clear en_
                              refine start_ (n := 36) (S := fun w' => w'.cell? ⟨gb274, 0, none⟩ = some (.int .u64 ((rd_T27 l0 x5_1).f0)) ∧ w'.cell? ⟨gb274, 1, none⟩ = some (.int .u64 ((rd_T27 l0 x5_1).f1)) ∧ w'.cell? ⟨gb274, 2, none⟩ = some (.slice A273_2 ((rd_T27 l0 x5_1).f2).length c273_2) ∧ w'.cell? (ad273.add (((ji34)).toNat * 3)) = some (.int .u64 ((rd_T27 l0 (ji34)).f0)) ∧ w'.cell? ⟨(ad273.add (((ji34)).toNat * 3)).block, (ad273.add (((ji34)).toNat * 3)).off + 1, none⟩ = some (.int .u64 ((rd_T27 l0 (ji34)).f1)) ∧ w'.cell? ⟨(ad273.add (((ji34)).toNat * 3)).block, (ad273.add (((ji34)).toNat * 3)).off + 2, none⟩ = some (.slice A282_2 ((rd_T27 l0 (ji34)).f2).length c282_2) ∧ w'.cell? (ad273.add (((ji34)).toNat * 3)) = some (.int .u64 ((rd_T27 l0 (ji34)).f0)) ∧ w'.cell? ⟨(ad273.add (((ji34)).toNat * 3)).block, (ad273.add (((ji34)).toNat * 3)).off + 1, none⟩ = some (.int .u64 ((rd_T27 l0 (ji34)).f1)) ∧ w'.cell? ⟨(ad273.add (((ji34)).toNat * 3)).block, (ad273.add (((ji34)).toNat * 3)).off + 2, none⟩ = some (.slice A282_2 ((rd_T27 l0 (ji34)).f2).length c282_2)) (ds := []) #[false, false, false, false, false, false, false, false, false, false, false, false, false, false, false, false, false, false, false, false, false, false, false, false, false, false, false, false, false, false, false, false, false, false, false, false] (by kernel_rfl) rfl rfl ⟨(blk_cell BK274.out 0).trans rfl, (blk_cell BK274.out 1).trans rfl, (blk_cell BK274.out 2).trans rfl, ((HB.out.cell (World.block_lt_of_cell? w _ hw282_0)).trans hw282_0), ((HB.out.cell (World.block_lt_of_cell? w _ hw282_1)).trans hw282_1), ((HB.out.cell (World.block_lt_of_cell? w _ hw282_2)).trans hw282_2), ((HB.out.cell (World.block_lt_of_cell? w _ hw284_0)).trans hw284_0), ((HB.out.cell (World.block_lt_of_cell? w _ hw284_1)).trans hw284_1), ((HB.out.cell (World.block_lt_of_cell? w _ hw284_2)).trans hw284_2)⟩ (fun hHeld => ?_); refine with_tabW turnstilelaw13_StateLooks.tab16 turnstilelaw13_StateLooks.bits16 (fun HT_ HW_ => ?_)
                              generalize w41.drew = w42 at BK274 HB HR282_2 HR284_2 hx282_0 hx282_1 hx282_2 hx284_0 hx284_1 hx284_2 hHeld ⊢
                              refine chain_ (fuel := 21) [(0, 0, some 57), (1, 0, some 58), (2, 0, some 59), (3, 0, some 60), (4, 0, some 61), (5, 0, some 62), (6, 0, some 63), (10, 0, some 67), (11, 0, some 68), (12, 0, some 69), (13, 0, some 70), (7, 1, some 64), (8, 1, some 65), (14, 1, some 71), (15, 1, some 72)] #[true, true, true, true, true, true, true, true, true, false, true, true, true, true, true, true, false, false, false, false, false, false, false, false, false, false, false, false, false, false, false, false, false, false, false, false] HT_.out HW_.out (by kernel_rfl) (fun _ _ _ _ _ h => h) (Or.inr hHeld) rfl ?_
                              (iterate 11 refine lkP ?_); (iterate 4 refine lkT ?_); refine .nil ?_
                              refine one_ (i := 9) (N := some 66) #[true, true, true, true, true, true, true, true, true, true, true, true, true, true, true, true, false, false, false, false, false, false, false, false, false, false, false, false, false, false, false, false, false, false, false, false] rfl rfl (one_of HT_.out (by kernel_rfl)) (by decide) (fun K hK => ?_)
                              refine goes_ Tryd.func13 (by kernel_rfl) rfl #[.agg #[.int .u64 ((rd_T27 l0 (ji34)).f0), .int .u64 ((rd_T27 l0 (ji34)).f1), .slice A282_2 ((rd_T27 l0 (ji34)).f2).length c282_2], .agg #[.int .u64 ((rd_T27 l0 x5_1).f0), .int .u64 ((rd_T27 l0 x5_1).f1), .slice A273_2 ((rd_T27 l0 x5_1).f2).length c273_2]] (by rfl) rfl rfl (by (try simp only [List.map_toArray, List.map_cons, List.map_nil]); first | done | (simp only [hji34]; rfl) | rfl | (simp only [List.length_drop, List.length_take]; rfl)) ?_
                              with_reducible refine (state_Equal.calls kj17 ((rd_T27 l0 (ji34)).f0) ((rd_T27 l0 (ji34)).f1) _ _ ((rd_T27 l0 (ji34)).f2) ((rd_T27 l0 x5_1).f0) ((rd_T27 l0 x5_1).f1) _ _ ((rd_T27 l0 x5_1).f2) t283 _ ?side1 ?side2 ?side3 ?side4 A37.out).mono ?_
                              (case side1 => exact co (Kd.C_below HR282_2.out HB.out))
                              (case side2 => exact HC282_2.out)
                              (case side3 => exact co (Kd.C_below HR273_2.out HB.out))
                              (case side4 => exact HC273_2.out)
                              rintro e w43 ⟨rfl, hb⟩
                              refine ⟨_, rfl, ?_⟩
                              have n0_ := bb BK274 hb
                              have n1_ := bs HB hb
                              clear BK274
                              clear HB
                              have BK274 := n0_
                              have HB := n1_
                              clear n0_ n1_
                              (try clear hb)
                              (try clear hb2)
                              (try clear hk)
                              (try clear hi)
                              refine hK.out _ _ ⟨(blk_cell BK274.out 0).trans rfl, (blk_cell BK274.out 1).trans rfl, (blk_cell BK274.out 2).trans rfl, ((HB.out.cell (World.block_lt_of_cell? w _ hw282_0)).trans hw282_0), ((HB.out.cell (World.block_lt_of_cell? w _ hw282_1)).trans hw282_1), ((HB.out.cell (World.block_lt_of_cell? w _ hw282_2)).trans hw282_2), ((HB.out.cell (World.block_lt_of_cell? w _ hw284_0)).trans hw284_0), ((HB.out.cell (World.block_lt_of_cell? w _ hw284_1)).trans hw284_1), ((HB.out.cell (World.block_lt_of_cell? w _ hw284_2)).trans hw284_2)⟩ (fun hHeld => ?_)
                              clear hK K
                              refine norm_ (a' := ?_) ?_ ?_
                              rotate_left
                              · show Act.put _ (some 66) _ = _
                                simp only [Act.put, List.setIfInBounds_toArray, List.set_cons_zero, List.set_cons_succ, i64_w, i32_w]
                                rfl
                              refine one_ (i := 16) (N := some 73) #[true, true, true, true, true, true, true, true, true, true, true, true, true, true, true, true, true, false, false, false, false, false, false, false, false, false, false, false, false, false, false, false, false, false, false, false] rfl rfl (one_of HT_.out (by kernel_rfl)) (by decide) (fun K hK => ?_)
                              refine goes_ Tryd.func14 (by kernel_rfl) rfl #[.agg #[.int .u64 ((rd_T27 l0 (ji34)).f0), .int .u64 ((rd_T27 l0 (ji34)).f1), .slice A282_2 ((rd_T27 l0 (ji34)).f2).length c282_2], .agg #[.int .u64 ((rd_T27 l0 x5_1).f0), .int .u64 ((rd_T27 l0 x5_1).f1), .slice A273_2 ((rd_T27 l0 x5_1).f2).length c273_2]] (by rfl) rfl rfl (by (try simp only [List.map_toArray, List.map_cons, List.map_nil]); first | done | (simp only [hji34]; rfl) | rfl | (simp only [List.length_drop, List.length_take]; rfl)) ?_
                              with_reducible refine (turnstileref13_Equal.calls kj17 ((rd_T27 l0 (ji34)).f0) ((rd_T27 l0 (ji34)).f1) _ _ ((rd_T27 l0 (ji34)).f2) ((rd_T27 l0 x5_1).f0) ((rd_T27 l0 x5_1).f1) _ _ ((rd_T27 l0 x5_1).f2) t285 _ ?side1 ?side2 ?side3 ?side4 A38.out).mono ?_
                              (case side1 => exact co (Kd.C_below HR284_2.out HB.out))
                              (case side2 => exact HC284_2.out)
                              (case side3 => exact co (Kd.C_below HR273_2.out HB.out))
                              (case side4 => exact HC273_2.out)
                              rintro e w44 ⟨rfl, hb⟩
                              refine ⟨_, rfl, ?_⟩
                              have n0_ := bb BK274 hb
                              have n1_ := bs HB hb
                              clear BK274
                              clear HB
                              have BK274 := n0_
                              have HB := n1_
                              clear n0_ n1_
                              (try clear hb)
                              (try clear hb2)
                              (try clear hk)
                              (try clear hi)
                              refine hK.out _ _ ⟨(blk_cell BK274.out 0).trans rfl, (blk_cell BK274.out 1).trans rfl, (blk_cell BK274.out 2).trans rfl, ((HB.out.cell (World.block_lt_of_cell? w _ hw282_0)).trans hw282_0), ((HB.out.cell (World.block_lt_of_cell? w _ hw282_1)).trans hw282_1), ((HB.out.cell (World.block_lt_of_cell? w _ hw282_2)).trans hw282_2), ((HB.out.cell (World.block_lt_of_cell? w _ hw284_0)).trans hw284_0), ((HB.out.cell (World.block_lt_of_cell? w _ hw284_1)).trans hw284_1), ((HB.out.cell (World.block_lt_of_cell? w _ hw284_2)).trans hw284_2)⟩ (fun hHeld => ?_)
                              clear hK K
                              refine norm_ (a' := ?_) ?_ ?_
                              rotate_left
                              · show Act.put _ (some 73) _ = _
                                simp only [Act.put, List.setIfInBounds_toArray, List.set_cons_zero, List.set_cons_succ, i64_w, i32_w]
                                rfl
                              refine chain_ (fuel := 0) [(17, 0, some 74), (18, 0, some 75), (19, 2, some 76), (20, 2, some 77), (21, 2, some 78), (22, 2, some 79), (23, 2, some 80), (24, 2, some 81), (25, 2, some 82), (26, 2, some 83), (27, 2, some 84), (28, 2, some 85), (29, 2, some 86), (30, 2, some 87), (31, 2, some 88), (32, 2, some 89), (33, 2, some 90), (34, 0, some 91), (35, 0, some 92)] #[true, true, true, true, true, true, true, true, true, true, true, true, true, true, true, true, true, true, true, true, true, true, true, true, true, true, true, true, true, true, true, true, true, true, true, true] HT_.out HW_.out (by kernel_rfl) (fun _ _ _ _ _ h => h) (Or.inl (by decide)) rfl ?_
                              (iterate 2 refine lkP ?_); (iterate 15 refine lkO ?_); (iterate 2 refine lkP ?_); refine .nil ?_
                              refine done_ (done_of HT_.out (by kernel_rfl)) ?_
                              try go_wp2
                              go_ret
                              exact ⟨by first | rfl | (simp [errW_none, errW_some] <;> rfl) | (simp only [← hji34]; first | rfl | (simp [errW_none, errW_some] <;> rfl)) | (simp [*, errW_none, errW_some] <;> rfl), bw HB⟩
                            · rw [if_neg c39] at H
                              have c39b0 : (t283 != t285) = false := by simpa using c39
                              (try (have c39b1 : decide (t283 = t285) = true := by simpa using c39))
                              (try (have c39b2 : (t283 == t285) = true := by simpa using c39))
                              clear c39
                              replace H := Option.bind_eq_some_iff.mp H
                              obtain ⟨t287, A450, H⟩ := H
                              replace H : ((turnstileref13_Equal.f kj17 ((rd_T27 l0 x5_1).f0) ((rd_T27 l0 x5_1).f1) ((rd_T27 l0 x5_1).f2) ((rd_T27 l0 (ji34)).f0) ((rd_T27 l0 (ji34)).f1) ((rd_T27 l0 (ji34)).f2)).bind fun t289 => (if (t287 != t289) = true then (some false) else (turnstilelaw13_StateLooks.l0 kj17 l0 a1 (wrap64 (x5_1 + 1))))) = some r := H
                              have A45 := Aside0.mk A450
                              clear A450
                              replace H := Option.bind_eq_some_iff.mp H
                              obtain ⟨t289, A460, H⟩ := H
                              replace H : (if (t287 != t289) = true then (some false) else (turnstilelaw13_StateLooks.l0 kj17 l0 a1 (wrap64 (x5_1 + 1)))) = some r := H
                              have A46 := Aside0.mk A460
                              clear A460
                              by_cases c47 : (t287 != t289) = true
                              · rw [if_pos c47] at H
                                have c47b0 : (t287 != t289) = true := c47
                                (try (have c47b1 : decide (t287 = t289) = false := by simpa using c47))
                                (try (have c47b2 : (t287 == t289) = false := by simpa using c47))
                                (try (have c47b3 : ¬ (t287 = t289) := by simpa using c47))
                                clear c47
                                obtain rfl := Option.some.inj H
                                obtain ⟨hcz48_0, hcz48_1, hcz48_2, hfz48_0, hfz48_1, hfz48_2⟩ := bc3 BK274
                                try go_wp2_with (first | ((with_reducible refine gate_callee (f := 13) rfl ?_); refine gl (some 55) Tryd.func13 #[.agg #[.int .u64 ((rd_T27 l0 x5_1).f0), .int .u64 ((rd_T27 l0 x5_1).f1), .slice A273_2 ((rd_T27 l0 x5_1).f2).length c273_2], .agg #[.int .u64 ((rd_T27 l0 x5_1).f0), .int .u64 ((rd_T27 l0 x5_1).f1), .slice A273_2 ((rd_T27 l0 x5_1).f2).length c273_2]] ?_; (with_reducible refine (state_Equal.calls kj17 ((rd_T27 l0 x5_1).f0) ((rd_T27 l0 x5_1).f1) _ _ ((rd_T27 l0 x5_1).f2) ((rd_T27 l0 x5_1).f0) ((rd_T27 l0 x5_1).f1) _ _ ((rd_T27 l0 x5_1).f2) true _ ?side1 ?side2 ?side3 ?side4 A31.out).mono ?_); (case side1 => exact co (Kd.C_below HR273_2.out HB.out)); (case side2 => exact HC273_2.out); (case side3 => exact co (Kd.C_below HR273_2.out HB.out)); (case side4 => exact HC273_2.out); rintro e w49 ⟨rfl, hb⟩; refine ⟨_, rfl, ?_⟩; have n0_ := bb BK274 hb; have n1_ := bs HB hb; clear BK274; clear HB; have BK274 := n0_; have HB := n1_; clear n0_ n1_; (try clear hb); (try clear hb2); (try clear hk); (try clear hi)))
                                have n0_ := Aside0.mk (blk_drew BK274.out)
                                have n1_ := Aside0.mk (below_drew1 HB.out)
                                clear BK274
                                clear HB
                                have BK274 := n0_
                                have HB := n1_
                                clear n0_ n1_
                                have p282 : 0 ≤ ((ji34) : Int) := of_decide_eq_true (by first | (with_reducible assumption) | assumption)
                                have q282 : (ji34) < (l0.length : Int) := of_decide_eq_true (by first | (with_reducible assumption) | assumption)
                                obtain ⟨ad282, A282_2, c282_2, e282, hx282_0, hx282_1, hx282_2, hl282_2, hi282_2⟩ := at_T27 HR0.out (ji34) p282 q282
                                have hw282_2 := hx282_2
                                have hw282_1 := hx282_1
                                have hw282_0 := hx282_0
                                obtain rfl : ad273 = ad282 := (by injection e282)
                                replace hx282_0 := (HB.out.cell (World.block_lt_of_cell? w _ hx282_0)).trans hx282_0
                                replace hx282_1 := (HB.out.cell (World.block_lt_of_cell? w _ hx282_1)).trans hx282_1
                                replace hx282_2 := (HB.out.cell (World.block_lt_of_cell? w _ hx282_2)).trans hx282_2
                                have HR282_2 := Aside0.mk hi282_2
                                have HC282_2 := Aside0.mk hl282_2
                                clear hi282_2 hl282_2
                                replace p282 := eq_true p282
                                replace q282 := eq_true q282
                                have p284 : 0 ≤ ((ji34) : Int) := of_decide_eq_true (by first | (with_reducible assumption) | assumption)
                                have q284 : (ji34) < (l0.length : Int) := of_decide_eq_true (by first | (with_reducible assumption) | assumption)
                                obtain ⟨ad284, A284_2, c284_2, e284, hx284_0, hx284_1, hx284_2, hl284_2, hi284_2⟩ := at_T27 HR0.out (ji34) p284 q284
                                have hw284_2 := hx284_2
                                have hw284_1 := hx284_1
                                have hw284_0 := hx284_0
                                obtain rfl : ad273 = ad284 := (by injection e284)
                                replace hx284_0 := (HB.out.cell (World.block_lt_of_cell? w _ hx284_0)).trans hx284_0
                                replace hx284_1 := (HB.out.cell (World.block_lt_of_cell? w _ hx284_1)).trans hx284_1
                                replace hx284_2 := (HB.out.cell (World.block_lt_of_cell? w _ hx284_2)).trans hx284_2
                                have HR284_2 := Aside0.mk hi284_2
                                have HC284_2 := Aside0.mk hl284_2
                                clear hi284_2 hl284_2
                                replace p284 := eq_true p284
                                replace q284 := eq_true q284
                                have ea_ := Option.some.inj (hx282_2.symm.trans hx284_2)
                                injection ea_ with ea_ en_ ec_
                                subst ea_
                                subst ec_
                                clear en_
                                have p286 : 0 ≤ ((ji34) : Int) := of_decide_eq_true (by first | (with_reducible assumption) | assumption)
                                have q286 : (ji34) < (l0.length : Int) := of_decide_eq_true (by first | (with_reducible assumption) | assumption)
                                obtain ⟨ad286, A286_2, c286_2, e286, hx286_0, hx286_1, hx286_2, hl286_2, hi286_2⟩ := at_T27 HR0.out (ji34) p286 q286
                                have hw286_2 := hx286_2
                                have hw286_1 := hx286_1
                                have hw286_0 := hx286_0
                                obtain rfl : ad273 = ad286 := (by injection e286)
                                replace hx286_0 := (HB.out.cell (World.block_lt_of_cell? w _ hx286_0)).trans hx286_0
                                replace hx286_1 := (HB.out.cell (World.block_lt_of_cell? w _ hx286_1)).trans hx286_1
                                replace hx286_2 := (HB.out.cell (World.block_lt_of_cell? w _ hx286_2)).trans hx286_2
                                have HR286_2 := Aside0.mk hi286_2
                                have HC286_2 := Aside0.mk hl286_2
                                clear hi286_2 hl286_2
                                replace p286 := eq_true p286
                                replace q286 := eq_true q286
                                have ea_ := Option.some.inj (hx282_2.symm.trans hx286_2)
                                injection ea_ with ea_ en_ ec_
                                subst ea_
                                subst ec_
                                clear en_
                                have p288 : 0 ≤ ((ji34) : Int) := of_decide_eq_true (by first | (with_reducible assumption) | assumption)
                                have q288 : (ji34) < (l0.length : Int) := of_decide_eq_true (by first | (with_reducible assumption) | assumption)
                                obtain ⟨ad288, A288_2, c288_2, e288, hx288_0, hx288_1, hx288_2, hl288_2, hi288_2⟩ := at_T27 HR0.out (ji34) p288 q288
                                have hw288_2 := hx288_2
                                have hw288_1 := hx288_1
                                have hw288_0 := hx288_0
                                obtain rfl : ad273 = ad288 := (by injection e288)
                                replace hx288_0 := (HB.out.cell (World.block_lt_of_cell? w _ hx288_0)).trans hx288_0
                                replace hx288_1 := (HB.out.cell (World.block_lt_of_cell? w _ hx288_1)).trans hx288_1
                                replace hx288_2 := (HB.out.cell (World.block_lt_of_cell? w _ hx288_2)).trans hx288_2
                                have HR288_2 := Aside0.mk hi288_2
                                have HC288_2 := Aside0.mk hl288_2
                                clear hi288_2 hl288_2
                                replace p288 := eq_true p288
                                replace q288 := eq_true q288
                                have ea_ := Option.some.inj (hx282_2.symm.trans hx288_2)
                                injection ea_ with ea_ en_ ec_
                                subst ea_
                                subst ec_
                                clear en_
                                refine start_ (n := 36) (S := fun w' => w'.cell? ⟨gb274, 0, none⟩ = some (.int .u64 ((rd_T27 l0 x5_1).f0)) ∧ w'.cell? ⟨gb274, 1, none⟩ = some (.int .u64 ((rd_T27 l0 x5_1).f1)) ∧ w'.cell? ⟨gb274, 2, none⟩ = some (.slice A273_2 ((rd_T27 l0 x5_1).f2).length c273_2) ∧ w'.cell? (ad273.add (((ji34)).toNat * 3)) = some (.int .u64 ((rd_T27 l0 (ji34)).f0)) ∧ w'.cell? ⟨(ad273.add (((ji34)).toNat * 3)).block, (ad273.add (((ji34)).toNat * 3)).off + 1, none⟩ = some (.int .u64 ((rd_T27 l0 (ji34)).f1)) ∧ w'.cell? ⟨(ad273.add (((ji34)).toNat * 3)).block, (ad273.add (((ji34)).toNat * 3)).off + 2, none⟩ = some (.slice A282_2 ((rd_T27 l0 (ji34)).f2).length c282_2) ∧ w'.cell? (ad273.add (((ji34)).toNat * 3)) = some (.int .u64 ((rd_T27 l0 (ji34)).f0)) ∧ w'.cell? ⟨(ad273.add (((ji34)).toNat * 3)).block, (ad273.add (((ji34)).toNat * 3)).off + 1, none⟩ = some (.int .u64 ((rd_T27 l0 (ji34)).f1)) ∧ w'.cell? ⟨(ad273.add (((ji34)).toNat * 3)).block, (ad273.add (((ji34)).toNat * 3)).off + 2, none⟩ = some (.slice A282_2 ((rd_T27 l0 (ji34)).f2).length c282_2) ∧ w'.cell? (ad273.add (((ji34)).toNat * 3)) = some (.int .u64 ((rd_T27 l0 (ji34)).f0)) ∧ w'.cell? ⟨(ad273.add (((ji34)).toNat * 3)).block, (ad273.add (((ji34)).toNat * 3)).off + 1, none⟩ = some (.int .u64 ((rd_T27 l0 (ji34)).f1)) ∧ w'.cell? ⟨(ad273.add (((ji34)).toNat * 3)).block, (ad273.add (((ji34)).toNat * 3)).off + 2, none⟩ = some (.slice A282_2 ((rd_T27 l0 (ji34)).f2).length c282_2) ∧ w'.cell? (ad273.add (((ji34)).toNat * 3)) = some (.int .u64 ((rd_T27 l0 (ji34)).f0)) ∧ w'.cell? ⟨(ad273.add (((ji34)).toNat * 3)).block, (ad273.add (((ji34)).toNat * 3)).off + 1, none⟩ = some (.int .u64 ((rd_T27 l0 (ji34)).f1)) ∧ w'.cell? ⟨(ad273.add (((ji34)).toNat * 3)).block, (ad273.add (((ji34)).toNat * 3)).off + 2, none⟩ = some (.slice A282_2 ((rd_T27 l0 (ji34)).f2).length c282_2)) (ds := []) #[false, false, false, false, false, false, false, false, false, false, false, false, false, false, false, false, false, false, false, false, false, false, false, false, false, false, false, false, false, false, false, false, false, false, false, false] (by kernel_rfl) rfl rfl ⟨(blk_cell BK274.out 0).trans rfl, (blk_cell BK274.out 1).trans rfl, (blk_cell BK274.out 2).trans rfl, ((HB.out.cell (World.block_lt_of_cell? w _ hw282_0)).trans hw282_0), ((HB.out.cell (World.block_lt_of_cell? w _ hw282_1)).trans hw282_1), ((HB.out.cell (World.block_lt_of_cell? w _ hw282_2)).trans hw282_2), ((HB.out.cell (World.block_lt_of_cell? w _ hw284_0)).trans hw284_0), ((HB.out.cell (World.block_lt_of_cell? w _ hw284_1)).trans hw284_1), ((HB.out.cell (World.block_lt_of_cell? w _ hw284_2)).trans hw284_2), ((HB.out.cell (World.block_lt_of_cell? w _ hw286_0)).trans hw286_0), ((HB.out.cell (World.block_lt_of_cell? w _ hw286_1)).trans hw286_1), ((HB.out.cell (World.block_lt_of_cell? w _ hw286_2)).trans hw286_2), ((HB.out.cell (World.block_lt_of_cell? w _ hw288_0)).trans hw288_0), ((HB.out.cell (World.block_lt_of_cell? w _ hw288_1)).trans hw288_1), ((HB.out.cell (World.block_lt_of_cell? w _ hw288_2)).trans hw288_2)⟩ (fun hHeld => ?_); refine with_tabW turnstilelaw13_StateLooks.tab16 turnstilelaw13_StateLooks.bits16 (fun HT_ HW_ => ?_)
                                generalize w49.drew = w50 at BK274 HB HR282_2 HR284_2 HR286_2 HR288_2 hx282_0 hx282_1 hx282_2 hx284_0 hx284_1 hx284_2 hx286_0 hx286_1 hx286_2 hx288_0 hx288_1 hx288_2 hHeld ⊢
                                refine chain_ (fuel := 21) [(0, 0, some 57), (1, 0, some 58), (2, 0, some 59), (3, 0, some 60), (4, 0, some 61), (5, 0, some 62), (6, 0, some 63), (10, 0, some 67), (11, 0, some 68), (12, 0, some 69), (13, 0, some 70), (7, 1, some 64), (8, 1, some 65), (14, 1, some 71), (15, 1, some 72)] #[true, true, true, true, true, true, true, true, true, false, true, true, true, true, true, true, false, false, false, false, false, false, false, false, false, false, false, false, false, false, false, false, false, false, false, false] HT_.out HW_.out (by kernel_rfl) (fun _ _ _ _ _ h => h) (Or.inr hHeld) rfl ?_
                                (iterate 11 refine lkP ?_); (iterate 4 refine lkT ?_); refine .nil ?_
                                refine one_ (i := 9) (N := some 66) #[true, true, true, true, true, true, true, true, true, true, true, true, true, true, true, true, false, false, false, false, false, false, false, false, false, false, false, false, false, false, false, false, false, false, false, false] rfl rfl (one_of HT_.out (by kernel_rfl)) (by decide) (fun K hK => ?_)
                                refine goes_ Tryd.func13 (by kernel_rfl) rfl #[.agg #[.int .u64 ((rd_T27 l0 (ji34)).f0), .int .u64 ((rd_T27 l0 (ji34)).f1), .slice A282_2 ((rd_T27 l0 (ji34)).f2).length c282_2], .agg #[.int .u64 ((rd_T27 l0 x5_1).f0), .int .u64 ((rd_T27 l0 x5_1).f1), .slice A273_2 ((rd_T27 l0 x5_1).f2).length c273_2]] (by rfl) rfl rfl (by (try simp only [List.map_toArray, List.map_cons, List.map_nil]); first | done | (simp only [hji34]; rfl) | rfl | (simp only [List.length_drop, List.length_take]; rfl)) ?_
                                with_reducible refine (state_Equal.calls kj17 ((rd_T27 l0 (ji34)).f0) ((rd_T27 l0 (ji34)).f1) _ _ ((rd_T27 l0 (ji34)).f2) ((rd_T27 l0 x5_1).f0) ((rd_T27 l0 x5_1).f1) _ _ ((rd_T27 l0 x5_1).f2) t283 _ ?side1 ?side2 ?side3 ?side4 A37.out).mono ?_
                                (case side1 => exact co (Kd.C_below HR282_2.out HB.out))
                                (case side2 => exact HC282_2.out)
                                (case side3 => exact co (Kd.C_below HR273_2.out HB.out))
                                (case side4 => exact HC273_2.out)
                                rintro e w51 ⟨rfl, hb⟩
                                refine ⟨_, rfl, ?_⟩
                                have n0_ := bb BK274 hb
                                have n1_ := bs HB hb
                                clear BK274
                                clear HB
                                have BK274 := n0_
                                have HB := n1_
                                clear n0_ n1_
                                (try clear hb)
                                (try clear hb2)
                                (try clear hk)
                                (try clear hi)
                                refine hK.out _ _ ⟨(blk_cell BK274.out 0).trans rfl, (blk_cell BK274.out 1).trans rfl, (blk_cell BK274.out 2).trans rfl, ((HB.out.cell (World.block_lt_of_cell? w _ hw282_0)).trans hw282_0), ((HB.out.cell (World.block_lt_of_cell? w _ hw282_1)).trans hw282_1), ((HB.out.cell (World.block_lt_of_cell? w _ hw282_2)).trans hw282_2), ((HB.out.cell (World.block_lt_of_cell? w _ hw284_0)).trans hw284_0), ((HB.out.cell (World.block_lt_of_cell? w _ hw284_1)).trans hw284_1), ((HB.out.cell (World.block_lt_of_cell? w _ hw284_2)).trans hw284_2), ((HB.out.cell (World.block_lt_of_cell? w _ hw286_0)).trans hw286_0), ((HB.out.cell (World.block_lt_of_cell? w _ hw286_1)).trans hw286_1), ((HB.out.cell (World.block_lt_of_cell? w _ hw286_2)).trans hw286_2), ((HB.out.cell (World.block_lt_of_cell? w _ hw288_0)).trans hw288_0), ((HB.out.cell (World.block_lt_of_cell? w _ hw288_1)).trans hw288_1), ((HB.out.cell (World.block_lt_of_cell? w _ hw288_2)).trans hw288_2)⟩ (fun hHeld => ?_)
                                clear hK K
                                refine norm_ (a' := ?_) ?_ ?_
                                rotate_left
                                · show Act.put _ (some 66) _ = _
                                  simp only [Act.put, List.setIfInBounds_toArray, List.set_cons_zero, List.set_cons_succ, i64_w, i32_w]
                                  rfl
                                refine one_ (i := 16) (N := some 73) #[true, true, true, true, true, true, true, true, true, true, true, true, true, true, true, true, true, false, false, false, false, false, false, false, false, false, false, false, false, false, false, false, false, false, false, false] rfl rfl (one_of HT_.out (by kernel_rfl)) (by decide) (fun K hK => ?_)
                                refine goes_ Tryd.func14 (by kernel_rfl) rfl #[.agg #[.int .u64 ((rd_T27 l0 (ji34)).f0), .int .u64 ((rd_T27 l0 (ji34)).f1), .slice A282_2 ((rd_T27 l0 (ji34)).f2).length c282_2], .agg #[.int .u64 ((rd_T27 l0 x5_1).f0), .int .u64 ((rd_T27 l0 x5_1).f1), .slice A273_2 ((rd_T27 l0 x5_1).f2).length c273_2]] (by rfl) rfl rfl (by (try simp only [List.map_toArray, List.map_cons, List.map_nil]); first | done | (simp only [hji34]; rfl) | rfl | (simp only [List.length_drop, List.length_take]; rfl)) ?_
                                with_reducible refine (turnstileref13_Equal.calls kj17 ((rd_T27 l0 (ji34)).f0) ((rd_T27 l0 (ji34)).f1) _ _ ((rd_T27 l0 (ji34)).f2) ((rd_T27 l0 x5_1).f0) ((rd_T27 l0 x5_1).f1) _ _ ((rd_T27 l0 x5_1).f2) t285 _ ?side1 ?side2 ?side3 ?side4 A38.out).mono ?_
                                (case side1 => exact co (Kd.C_below HR284_2.out HB.out))
                                (case side2 => exact HC284_2.out)
                                (case side3 => exact co (Kd.C_below HR273_2.out HB.out))
                                (case side4 => exact HC273_2.out)
                                rintro e w52 ⟨rfl, hb⟩
                                refine ⟨_, rfl, ?_⟩
                                have n0_ := bb BK274 hb
                                have n1_ := bs HB hb
                                clear BK274
                                clear HB
                                have BK274 := n0_
                                have HB := n1_
                                clear n0_ n1_
                                (try clear hb)
                                (try clear hb2)
                                (try clear hk)
                                (try clear hi)
                                refine hK.out _ _ ⟨(blk_cell BK274.out 0).trans rfl, (blk_cell BK274.out 1).trans rfl, (blk_cell BK274.out 2).trans rfl, ((HB.out.cell (World.block_lt_of_cell? w _ hw282_0)).trans hw282_0), ((HB.out.cell (World.block_lt_of_cell? w _ hw282_1)).trans hw282_1), ((HB.out.cell (World.block_lt_of_cell? w _ hw282_2)).trans hw282_2), ((HB.out.cell (World.block_lt_of_cell? w _ hw284_0)).trans hw284_0), ((HB.out.cell (World.block_lt_of_cell? w _ hw284_1)).trans hw284_1), ((HB.out.cell (World.block_lt_of_cell? w _ hw284_2)).trans hw284_2), ((HB.out.cell (World.block_lt_of_cell? w _ hw286_0)).trans hw286_0), ((HB.out.cell (World.block_lt_of_cell? w _ hw286_1)).trans hw286_1), ((HB.out.cell (World.block_lt_of_cell? w _ hw286_2)).trans hw286_2), ((HB.out.cell (World.block_lt_of_cell? w _ hw288_0)).trans hw288_0), ((HB.out.cell (World.block_lt_of_cell? w _ hw288_1)).trans hw288_1), ((HB.out.cell (World.block_lt_of_cell? w _ hw288_2)).trans hw288_2)⟩ (fun hHeld => ?_)
                                clear hK K
                                refine norm_ (a' := ?_) ?_ ?_
                                rotate_left
                                · show Act.put _ (some 73) _ = _
                                  simp only [Act.put, List.setIfInBounds_toArray, List.set_cons_zero, List.set_cons_succ, i64_w, i32_w]
                                  rfl
                                refine chain_ (fuel := 5) [(17, 0, some 74), (18, 0, some 75), (20, 0, some 77), (21, 0, some 78), (22, 0, some 79), (23, 0, some 80), (27, 0, some 84), (28, 0, some 85), (29, 0, some 86), (30, 0, some 87), (19, 1, some 76), (24, 1, some 81), (26, 1, some 83), (31, 1, some 88)] #[true, true, true, true, true, true, true, true, true, true, true, true, true, true, true, true, true, true, true, true, true, true, true, true, true, false, true, true, true, true, true, true, false, false, false, false] HT_.out HW_.out (by kernel_rfl) (fun _ _ _ _ _ h => h) (Or.inr hHeld) rfl ?_
                                (iterate 10 refine lkP ?_); (iterate 4 refine lkT ?_); refine .nil ?_
                                refine one_ (i := 25) (N := some 82) #[true, true, true, true, true, true, true, true, true, true, true, true, true, true, true, true, true, true, true, true, true, true, true, true, true, true, true, true, true, true, true, true, false, false, false, false] rfl rfl (one_of HT_.out (by kernel_rfl)) (by decide) (fun K hK => ?_)
                                refine goes_ Tryd.func13 (by kernel_rfl) rfl #[.agg #[.int .u64 ((rd_T27 l0 x5_1).f0), .int .u64 ((rd_T27 l0 x5_1).f1), .slice A273_2 ((rd_T27 l0 x5_1).f2).length c273_2], .agg #[.int .u64 ((rd_T27 l0 (ji34)).f0), .int .u64 ((rd_T27 l0 (ji34)).f1), .slice A282_2 ((rd_T27 l0 (ji34)).f2).length c282_2]] (by rfl) rfl rfl (by (try simp only [List.map_toArray, List.map_cons, List.map_nil]); first | done | (simp only [hji34]; rfl) | rfl | (simp only [List.length_drop, List.length_take]; rfl)) ?_
                                with_reducible refine (state_Equal.calls kj17 ((rd_T27 l0 x5_1).f0) ((rd_T27 l0 x5_1).f1) _ _ ((rd_T27 l0 x5_1).f2) ((rd_T27 l0 (ji34)).f0) ((rd_T27 l0 (ji34)).f1) _ _ ((rd_T27 l0 (ji34)).f2) t287 _ ?side1 ?side2 ?side3 ?side4 A45.out).mono ?_
                                (case side1 => exact co (Kd.C_below HR273_2.out HB.out))
                                (case side2 => exact HC273_2.out)
                                (case side3 => exact co (Kd.C_below HR286_2.out HB.out))
                                (case side4 => exact HC286_2.out)
                                rintro e w53 ⟨rfl, hb⟩
                                refine ⟨_, rfl, ?_⟩
                                have n0_ := bb BK274 hb
                                have n1_ := bs HB hb
                                clear BK274
                                clear HB
                                have BK274 := n0_
                                have HB := n1_
                                clear n0_ n1_
                                (try clear hb)
                                (try clear hb2)
                                (try clear hk)
                                (try clear hi)
                                refine hK.out _ _ ⟨(blk_cell BK274.out 0).trans rfl, (blk_cell BK274.out 1).trans rfl, (blk_cell BK274.out 2).trans rfl, ((HB.out.cell (World.block_lt_of_cell? w _ hw282_0)).trans hw282_0), ((HB.out.cell (World.block_lt_of_cell? w _ hw282_1)).trans hw282_1), ((HB.out.cell (World.block_lt_of_cell? w _ hw282_2)).trans hw282_2), ((HB.out.cell (World.block_lt_of_cell? w _ hw284_0)).trans hw284_0), ((HB.out.cell (World.block_lt_of_cell? w _ hw284_1)).trans hw284_1), ((HB.out.cell (World.block_lt_of_cell? w _ hw284_2)).trans hw284_2), ((HB.out.cell (World.block_lt_of_cell? w _ hw286_0)).trans hw286_0), ((HB.out.cell (World.block_lt_of_cell? w _ hw286_1)).trans hw286_1), ((HB.out.cell (World.block_lt_of_cell? w _ hw286_2)).trans hw286_2), ((HB.out.cell (World.block_lt_of_cell? w _ hw288_0)).trans hw288_0), ((HB.out.cell (World.block_lt_of_cell? w _ hw288_1)).trans hw288_1), ((HB.out.cell (World.block_lt_of_cell? w _ hw288_2)).trans hw288_2)⟩ (fun hHeld => ?_)
                                clear hK K
                                refine norm_ (a' := ?_) ?_ ?_
                                rotate_left
                                · show Act.put _ (some 82) _ = _
                                  simp only [Act.put, List.setIfInBounds_toArray, List.set_cons_zero, List.set_cons_succ, i64_w, i32_w]
                                  rfl
                                refine one_ (i := 32) (N := some 89) #[true, true, true, true, true, true, true, true, true, true, true, true, true, true, true, true, true, true, true, true, true, true, true, true, true, true, true, true, true, true, true, true, true, false, false, false] rfl rfl (one_of HT_.out (by kernel_rfl)) (by decide) (fun K hK => ?_)
                                refine goes_ Tryd.func14 (by kernel_rfl) rfl #[.agg #[.int .u64 ((rd_T27 l0 x5_1).f0), .int .u64 ((rd_T27 l0 x5_1).f1), .slice A273_2 ((rd_T27 l0 x5_1).f2).length c273_2], .agg #[.int .u64 ((rd_T27 l0 (ji34)).f0), .int .u64 ((rd_T27 l0 (ji34)).f1), .slice A282_2 ((rd_T27 l0 (ji34)).f2).length c282_2]] (by rfl) rfl rfl (by (try simp only [List.map_toArray, List.map_cons, List.map_nil]); first | done | (simp only [hji34]; rfl) | rfl | (simp only [List.length_drop, List.length_take]; rfl)) ?_
                                with_reducible refine (turnstileref13_Equal.calls kj17 ((rd_T27 l0 x5_1).f0) ((rd_T27 l0 x5_1).f1) _ _ ((rd_T27 l0 x5_1).f2) ((rd_T27 l0 (ji34)).f0) ((rd_T27 l0 (ji34)).f1) _ _ ((rd_T27 l0 (ji34)).f2) t289 _ ?side1 ?side2 ?side3 ?side4 A46.out).mono ?_
                                (case side1 => exact co (Kd.C_below HR273_2.out HB.out))
                                (case side2 => exact HC273_2.out)
                                (case side3 => exact co (Kd.C_below HR288_2.out HB.out))
                                (case side4 => exact HC288_2.out)
                                rintro e w54 ⟨rfl, hb⟩
                                refine ⟨_, rfl, ?_⟩
                                have n0_ := bb BK274 hb
                                have n1_ := bs HB hb
                                clear BK274
                                clear HB
                                have BK274 := n0_
                                have HB := n1_
                                clear n0_ n1_
                                (try clear hb)
                                (try clear hb2)
                                (try clear hk)
                                (try clear hi)
                                refine hK.out _ _ ⟨(blk_cell BK274.out 0).trans rfl, (blk_cell BK274.out 1).trans rfl, (blk_cell BK274.out 2).trans rfl, ((HB.out.cell (World.block_lt_of_cell? w _ hw282_0)).trans hw282_0), ((HB.out.cell (World.block_lt_of_cell? w _ hw282_1)).trans hw282_1), ((HB.out.cell (World.block_lt_of_cell? w _ hw282_2)).trans hw282_2), ((HB.out.cell (World.block_lt_of_cell? w _ hw284_0)).trans hw284_0), ((HB.out.cell (World.block_lt_of_cell? w _ hw284_1)).trans hw284_1), ((HB.out.cell (World.block_lt_of_cell? w _ hw284_2)).trans hw284_2), ((HB.out.cell (World.block_lt_of_cell? w _ hw286_0)).trans hw286_0), ((HB.out.cell (World.block_lt_of_cell? w _ hw286_1)).trans hw286_1), ((HB.out.cell (World.block_lt_of_cell? w _ hw286_2)).trans hw286_2), ((HB.out.cell (World.block_lt_of_cell? w _ hw288_0)).trans hw288_0), ((HB.out.cell (World.block_lt_of_cell? w _ hw288_1)).trans hw288_1), ((HB.out.cell (World.block_lt_of_cell? w _ hw288_2)).trans hw288_2)⟩ (fun hHeld => ?_)
                                clear hK K
                                refine norm_ (a' := ?_) ?_ ?_
                                rotate_left
                                · show Act.put _ (some 89) _ = _
                                  simp only [Act.put, List.setIfInBounds_toArray, List.set_cons_zero, List.set_cons_succ, i64_w, i32_w]
                                  rfl
                                refine chain_ (fuel := 0) [(33, 0, some 90), (34, 0, some 91), (35, 0, some 92)] #[true, true, true, true, true, true, true, true, true, true, true, true, true, true, true, true, true, true, true, true, true, true, true, true, true, true, true, true, true, true, true, true, true, true, true, true] HT_.out HW_.out (by kernel_rfl) (fun _ _ _ _ _ h => h) (Or.inl (by decide)) rfl ?_
                                (iterate 3 refine lkP ?_); refine .nil ?_
                                refine done_ (done_of HT_.out (by kernel_rfl)) ?_
                                try go_wp2
                                go_ret
                                exact ⟨by first | rfl | (simp [errW_none, errW_some] <;> rfl) | (simp only [← hji34]; first | rfl | (simp [errW_none, errW_some] <;> rfl)) | (simp [*, errW_none, errW_some] <;> rfl), bw HB⟩
                              · rw [if_neg c47] at H
                                have c47b0 : (t287 != t289) = false := by simpa using c47
                                (try (have c47b1 : decide (t287 = t289) = true := by simpa using c47))
                                (try (have c47b2 : (t287 == t289) = true := by simpa using c47))
                                clear c47
                                have H' := Aside0.mk H
                                clear H
                                obtain ⟨hcz55_0, hcz55_1, hcz55_2, hfz55_0, hfz55_1, hfz55_2⟩ := bc3 BK274
                                try go_wp2_with (first | ((with_reducible refine gate_callee (f := 13) rfl ?_); refine gl (some 55) Tryd.func13 #[.agg #[.int .u64 ((rd_T27 l0 x5_1).f0), .int .u64 ((rd_T27 l0 x5_1).f1), .slice A273_2 ((rd_T27 l0 x5_1).f2).length c273_2], .agg #[.int .u64 ((rd_T27 l0 x5_1).f0), .int .u64 ((rd_T27 l0 x5_1).f1), .slice A273_2 ((rd_T27 l0 x5_1).f2).length c273_2]] ?_; (with_reducible refine (state_Equal.calls kj17 ((rd_T27 l0 x5_1).f0) ((rd_T27 l0 x5_1).f1) _ _ ((rd_T27 l0 x5_1).f2) ((rd_T27 l0 x5_1).f0) ((rd_T27 l0 x5_1).f1) _ _ ((rd_T27 l0 x5_1).f2) true _ ?side1 ?side2 ?side3 ?side4 A31.out).mono ?_); (case side1 => exact co (Kd.C_below HR273_2.out HB.out)); (case side2 => exact HC273_2.out); (case side3 => exact co (Kd.C_below HR273_2.out HB.out)); (case side4 => exact HC273_2.out); rintro e w56 ⟨rfl, hb⟩; refine ⟨_, rfl, ?_⟩; have n0_ := bb BK274 hb; have n1_ := bs HB hb; clear BK274; clear HB; have BK274 := n0_; have HB := n1_; clear n0_ n1_; (try clear hb); (try clear hb2); (try clear hk); (try clear hi)))
                                have n0_ := Aside0.mk (blk_drew BK274.out)
                                have n1_ := Aside0.mk (below_drew1 HB.out)
                                clear BK274
                                clear HB
                                have BK274 := n0_
                                have HB := n1_
                                clear n0_ n1_
                                have p282 : 0 ≤ ((ji34) : Int) := of_decide_eq_true (by first | (with_reducible assumption) | assumption)
                                have q282 : (ji34) < (l0.length : Int) := of_decide_eq_true (by first | (with_reducible assumption) | assumption)
                                obtain ⟨ad282, A282_2, c282_2, e282, hx282_0, hx282_1, hx282_2, hl282_2, hi282_2⟩ := at_T27 HR0.out (ji34) p282 q282
                                have hw282_2 := hx282_2
                                have hw282_1 := hx282_1
                                have hw282_0 := hx282_0
                                obtain rfl : ad273 = ad282 := (by injection e282)
                                replace hx282_0 := (HB.out.cell (World.block_lt_of_cell? w _ hx282_0)).trans hx282_0
                                replace hx282_1 := (HB.out.cell (World.block_lt_of_cell? w _ hx282_1)).trans hx282_1
                                replace hx282_2 := (HB.out.cell (World.block_lt_of_cell? w _ hx282_2)).trans hx282_2
                                have HR282_2 := Aside0.mk hi282_2
                                have HC282_2 := Aside0.mk hl282_2
                                clear hi282_2 hl282_2
                                replace p282 := eq_true p282
                                replace q282 := eq_true q282
                                have p284 : 0 ≤ ((ji34) : Int) := of_decide_eq_true (by first | (with_reducible assumption) | assumption)
                                have q284 : (ji34) < (l0.length : Int) := of_decide_eq_true (by first | (with_reducible assumption) | assumption)
                                obtain ⟨ad284, A284_2, c284_2, e284, hx284_0, hx284_1, hx284_2, hl284_2, hi284_2⟩ := at_T27 HR0.out (ji34) p284 q284
                                have hw284_2 := hx284_2
                                have hw284_1 := hx284_1
                                have hw284_0 := hx284_0
                                obtain rfl : ad273 = ad284 := (by injection e284)
                                replace hx284_0 := (HB.out.cell (World.block_lt_of_cell? w _ hx284_0)).trans hx284_0
                                replace hx284_1 := (HB.out.cell (World.block_lt_of_cell? w _ hx284_1)).trans hx284_1
                                replace hx284_2 := (HB.out.cell (World.block_lt_of_cell? w _ hx284_2)).trans hx284_2
                                have HR284_2 := Aside0.mk hi284_2
                                have HC284_2 := Aside0.mk hl284_2
                                clear hi284_2 hl284_2
                                replace p284 := eq_true p284
                                replace q284 := eq_true q284
                                have ea_ := Option.some.inj (hx282_2.symm.trans hx284_2)
                                injection ea_ with ea_ en_ ec_
                                subst ea_
                                subst ec_
                                clear en_
                                have p286 : 0 ≤ ((ji34) : Int) := of_decide_eq_true (by first | (with_reducible assumption) | assumption)
                                have q286 : (ji34) < (l0.length : Int) := of_decide_eq_true (by first | (with_reducible assumption) | assumption)
                                obtain ⟨ad286, A286_2, c286_2, e286, hx286_0, hx286_1, hx286_2, hl286_2, hi286_2⟩ := at_T27 HR0.out (ji34) p286 q286
                                have hw286_2 := hx286_2
                                have hw286_1 := hx286_1
                                have hw286_0 := hx286_0
                                obtain rfl : ad273 = ad286 := (by injection e286)
                                replace hx286_0 := (HB.out.cell (World.block_lt_of_cell? w _ hx286_0)).trans hx286_0
                                replace hx286_1 := (HB.out.cell (World.block_lt_of_cell? w _ hx286_1)).trans hx286_1
                                replace hx286_2 := (HB.out.cell (World.block_lt_of_cell? w _ hx286_2)).trans hx286_2
                                have HR286_2 := Aside0.mk hi286_2
                                have HC286_2 := Aside0.mk hl286_2
                                clear hi286_2 hl286_2
                                replace p286 := eq_true p286
                                replace q286 := eq_true q286
                                have ea_ := Option.some.inj (hx282_2.symm.trans hx286_2)
                                injection ea_ with ea_ en_ ec_
                                subst ea_
                                subst ec_
                                clear en_
                                have p288 : 0 ≤ ((ji34) : Int) := of_decide_eq_true (by first | (with_reducible assumption) | assumption)
                                have q288 : (ji34) < (l0.length : Int) := of_decide_eq_true (by first | (with_reducible assumption) | assumption)
                                obtain ⟨ad288, A288_2, c288_2, e288, hx288_0, hx288_1, hx288_2, hl288_2, hi288_2⟩ := at_T27 HR0.out (ji34) p288 q288
                                have hw288_2 := hx288_2
                                have hw288_1 := hx288_1
                                have hw288_0 := hx288_0
                                obtain rfl : ad273 = ad288 := (by injection e288)
                                replace hx288_0 := (HB.out.cell (World.block_lt_of_cell? w _ hx288_0)).trans hx288_0
                                replace hx288_1 := (HB.out.cell (World.block_lt_of_cell? w _ hx288_1)).trans hx288_1
                                replace hx288_2 := (HB.out.cell (World.block_lt_of_cell? w _ hx288_2)).trans hx288_2
                                have HR288_2 := Aside0.mk hi288_2
                                have HC288_2 := Aside0.mk hl288_2
                                clear hi288_2 hl288_2
                                replace p288 := eq_true p288
                                replace q288 := eq_true q288
                                have ea_ := Option.some.inj (hx282_2.symm.trans hx288_2)
                                injection ea_ with ea_ en_ ec_
                                subst ea_
                                subst ec_
                                clear en_
                                refine start_ (n := 36) (S := fun w' => w'.cell? ⟨gb274, 0, none⟩ = some (.int .u64 ((rd_T27 l0 x5_1).f0)) ∧ w'.cell? ⟨gb274, 1, none⟩ = some (.int .u64 ((rd_T27 l0 x5_1).f1)) ∧ w'.cell? ⟨gb274, 2, none⟩ = some (.slice A273_2 ((rd_T27 l0 x5_1).f2).length c273_2) ∧ w'.cell? (ad273.add (((ji34)).toNat * 3)) = some (.int .u64 ((rd_T27 l0 (ji34)).f0)) ∧ w'.cell? ⟨(ad273.add (((ji34)).toNat * 3)).block, (ad273.add (((ji34)).toNat * 3)).off + 1, none⟩ = some (.int .u64 ((rd_T27 l0 (ji34)).f1)) ∧ w'.cell? ⟨(ad273.add (((ji34)).toNat * 3)).block, (ad273.add (((ji34)).toNat * 3)).off + 2, none⟩ = some (.slice A282_2 ((rd_T27 l0 (ji34)).f2).length c282_2) ∧ w'.cell? (ad273.add (((ji34)).toNat * 3)) = some (.int .u64 ((rd_T27 l0 (ji34)).f0)) ∧ w'.cell? ⟨(ad273.add (((ji34)).toNat * 3)).block, (ad273.add (((ji34)).toNat * 3)).off + 1, none⟩ = some (.int .u64 ((rd_T27 l0 (ji34)).f1)) ∧ w'.cell? ⟨(ad273.add (((ji34)).toNat * 3)).block, (ad273.add (((ji34)).toNat * 3)).off + 2, none⟩ = some (.slice A282_2 ((rd_T27 l0 (ji34)).f2).length c282_2) ∧ w'.cell? (ad273.add (((ji34)).toNat * 3)) = some (.int .u64 ((rd_T27 l0 (ji34)).f0)) ∧ w'.cell? ⟨(ad273.add (((ji34)).toNat * 3)).block, (ad273.add (((ji34)).toNat * 3)).off + 1, none⟩ = some (.int .u64 ((rd_T27 l0 (ji34)).f1)) ∧ w'.cell? ⟨(ad273.add (((ji34)).toNat * 3)).block, (ad273.add (((ji34)).toNat * 3)).off + 2, none⟩ = some (.slice A282_2 ((rd_T27 l0 (ji34)).f2).length c282_2) ∧ w'.cell? (ad273.add (((ji34)).toNat * 3)) = some (.int .u64 ((rd_T27 l0 (ji34)).f0)) ∧ w'.cell? ⟨(ad273.add (((ji34)).toNat * 3)).block, (ad273.add (((ji34)).toNat * 3)).off + 1, none⟩ = some (.int .u64 ((rd_T27 l0 (ji34)).f1)) ∧ w'.cell? ⟨(ad273.add (((ji34)).toNat * 3)).block, (ad273.add (((ji34)).toNat * 3)).off + 2, none⟩ = some (.slice A282_2 ((rd_T27 l0 (ji34)).f2).length c282_2)) (ds := []) #[false, false, false, false, false, false, false, false, false, false, false, false, false, false, false, false, false, false, false, false, false, false, false, false, false, false, false, false, false, false, false, false, false, false, false, false] (by kernel_rfl) rfl rfl ⟨(blk_cell BK274.out 0).trans rfl, (blk_cell BK274.out 1).trans rfl, (blk_cell BK274.out 2).trans rfl, ((HB.out.cell (World.block_lt_of_cell? w _ hw282_0)).trans hw282_0), ((HB.out.cell (World.block_lt_of_cell? w _ hw282_1)).trans hw282_1), ((HB.out.cell (World.block_lt_of_cell? w _ hw282_2)).trans hw282_2), ((HB.out.cell (World.block_lt_of_cell? w _ hw284_0)).trans hw284_0), ((HB.out.cell (World.block_lt_of_cell? w _ hw284_1)).trans hw284_1), ((HB.out.cell (World.block_lt_of_cell? w _ hw284_2)).trans hw284_2), ((HB.out.cell (World.block_lt_of_cell? w _ hw286_0)).trans hw286_0), ((HB.out.cell (World.block_lt_of_cell? w _ hw286_1)).trans hw286_1), ((HB.out.cell (World.block_lt_of_cell? w _ hw286_2)).trans hw286_2), ((HB.out.cell (World.block_lt_of_cell? w _ hw288_0)).trans hw288_0), ((HB.out.cell (World.block_lt_of_cell? w _ hw288_1)).trans hw288_1), ((HB.out.cell (World.block_lt_of_cell? w _ hw288_2)).trans hw288_2)⟩ (fun hHeld => ?_); refine with_tabW turnstilelaw13_StateLooks.tab16 turnstilelaw13_StateLooks.bits16 (fun HT_ HW_ => ?_)
                                generalize w56.drew = w57 at BK274 HB HR282_2 HR284_2 HR286_2 HR288_2 hx282_0 hx282_1 hx282_2 hx284_0 hx284_1 hx284_2 hx286_0 hx286_1 hx286_2 hx288_0 hx288_1 hx288_2 hHeld ⊢
                                refine chain_ (fuel := 21) [(0, 0, some 57), (1, 0, some 58), (2, 0, some 59), (3, 0, some 60), (4, 0, some 61), (5, 0, some 62), (6, 0, some 63), (10, 0, some 67), (11, 0, some 68), (12, 0, some 69), (13, 0, some 70), (7, 1, some 64), (8, 1, some 65), (14, 1, some 71), (15, 1, some 72)] #[true, true, true, true, true, true, true, true, true, false, true, true, true, true, true, true, false, false, false, false, false, false, false, false, false, false, false, false, false, false, false, false, false, false, false, false] HT_.out HW_.out (by kernel_rfl) (fun _ _ _ _ _ h => h) (Or.inr hHeld) rfl ?_
                                (iterate 11 refine lkP ?_); (iterate 4 refine lkT ?_); refine .nil ?_
                                refine one_ (i := 9) (N := some 66) #[true, true, true, true, true, true, true, true, true, true, true, true, true, true, true, true, false, false, false, false, false, false, false, false, false, false, false, false, false, false, false, false, false, false, false, false] rfl rfl (one_of HT_.out (by kernel_rfl)) (by decide) (fun K hK => ?_)
                                refine goes_ Tryd.func13 (by kernel_rfl) rfl #[.agg #[.int .u64 ((rd_T27 l0 (ji34)).f0), .int .u64 ((rd_T27 l0 (ji34)).f1), .slice A282_2 ((rd_T27 l0 (ji34)).f2).length c282_2], .agg #[.int .u64 ((rd_T27 l0 x5_1).f0), .int .u64 ((rd_T27 l0 x5_1).f1), .slice A273_2 ((rd_T27 l0 x5_1).f2).length c273_2]] (by rfl) rfl rfl (by (try simp only [List.map_toArray, List.map_cons, List.map_nil]); first | done | (simp only [hji34]; rfl) | rfl | (simp only [List.length_drop, List.length_take]; rfl)) ?_
                                with_reducible refine (state_Equal.calls kj17 ((rd_T27 l0 (ji34)).f0) ((rd_T27 l0 (ji34)).f1) _ _ ((rd_T27 l0 (ji34)).f2) ((rd_T27 l0 x5_1).f0) ((rd_T27 l0 x5_1).f1) _ _ ((rd_T27 l0 x5_1).f2) t283 _ ?side1 ?side2 ?side3 ?side4 A37.out).mono ?_
                                (case side1 => exact co (Kd.C_below HR282_2.out HB.out))
                                (case side2 => exact HC282_2.out)
                                (case side3 => exact co (Kd.C_below HR273_2.out HB.out))
                                (case side4 => exact HC273_2.out)
                                rintro e w58 ⟨rfl, hb⟩
                                refine ⟨_, rfl, ?_⟩
                                have n0_ := bb BK274 hb
                                have n1_ := bs HB hb
                                clear BK274
                                clear HB
                                have BK274 := n0_
                                have HB := n1_
                                clear n0_ n1_
                                (try clear hb)
                                (try clear hb2)
                                (try clear hk)
                                (try clear hi)
                                refine hK.out _ _ ⟨(blk_cell BK274.out 0).trans rfl, (blk_cell BK274.out 1).trans rfl, (blk_cell BK274.out 2).trans rfl, ((HB.out.cell (World.block_lt_of_cell? w _ hw282_0)).trans hw282_0), ((HB.out.cell (World.block_lt_of_cell? w _ hw282_1)).trans hw282_1), ((HB.out.cell (World.block_lt_of_cell? w _ hw282_2)).trans hw282_2), ((HB.out.cell (World.block_lt_of_cell? w _ hw284_0)).trans hw284_0), ((HB.out.cell (World.block_lt_of_cell? w _ hw284_1)).trans hw284_1), ((HB.out.cell (World.block_lt_of_cell? w _ hw284_2)).trans hw284_2), ((HB.out.cell (World.block_lt_of_cell? w _ hw286_0)).trans hw286_0), ((HB.out.cell (World.block_lt_of_cell? w _ hw286_1)).trans hw286_1), ((HB.out.cell (World.block_lt_of_cell? w _ hw286_2)).trans hw286_2), ((HB.out.cell (World.block_lt_of_cell? w _ hw288_0)).trans hw288_0), ((HB.out.cell (World.block_lt_of_cell? w _ hw288_1)).trans hw288_1), ((HB.out.cell (World.block_lt_of_cell? w _ hw288_2)).trans hw288_2)⟩ (fun hHeld => ?_)
                                clear hK K
                                refine norm_ (a' := ?_) ?_ ?_
                                rotate_left
                                · show Act.put _ (some 66) _ = _
                                  simp only [Act.put, List.setIfInBounds_toArray, List.set_cons_zero, List.set_cons_succ, i64_w, i32_w]
                                  rfl
                                refine one_ (i := 16) (N := some 73) #[true, true, true, true, true, true, true, true, true, true, true, true, true, true, true, true, true, false, false, false, false, false, false, false, false, false, false, false, false, false, false, false, false, false, false, false] rfl rfl (one_of HT_.out (by kernel_rfl)) (by decide) (fun K hK => ?_)
                                refine goes_ Tryd.func14 (by kernel_rfl) rfl #[.agg #[.int .u64 ((rd_T27 l0 (ji34)).f0), .int .u64 ((rd_T27 l0 (ji34)).f1), .slice A282_2 ((rd_T27 l0 (ji34)).f2).length c282_2], .agg #[.int .u64 ((rd_T27 l0 x5_1).f0), .int .u64 ((rd_T27 l0 x5_1).f1), .slice A273_2 ((rd_T27 l0 x5_1).f2).length c273_2]] (by rfl) rfl rfl (by (try simp only [List.map_toArray, List.map_cons, List.map_nil]); first | done | (simp only [hji34]; rfl) | rfl | (simp only [List.length_drop, List.length_take]; rfl)) ?_
                                with_reducible refine (turnstileref13_Equal.calls kj17 ((rd_T27 l0 (ji34)).f0) ((rd_T27 l0 (ji34)).f1) _ _ ((rd_T27 l0 (ji34)).f2) ((rd_T27 l0 x5_1).f0) ((rd_T27 l0 x5_1).f1) _ _ ((rd_T27 l0 x5_1).f2) t285 _ ?side1 ?side2 ?side3 ?side4 A38.out).mono ?_
                                (case side1 => exact co (Kd.C_below HR284_2.out HB.out))
                                (case side2 => exact HC284_2.out)
                                (case side3 => exact co (Kd.C_below HR273_2.out HB.out))
                                (case side4 => exact HC273_2.out)
                                rintro e w59 ⟨rfl, hb⟩
                                refine ⟨_, rfl, ?_⟩
                                have n0_ := bb BK274 hb
                                have n1_ := bs HB hb
                                clear BK274
                                clear HB
                                have BK274 := n0_
                                have HB := n1_
                                clear n0_ n1_
                                (try clear hb)
                                (try clear hb2)
                                (try clear hk)
                                (try clear hi)
                                refine hK.out _ _ ⟨(blk_cell BK274.out 0).trans rfl, (blk_cell BK274.out 1).trans rfl, (blk_cell BK274.out 2).trans rfl, ((HB.out.cell (World.block_lt_of_cell? w _ hw282_0)).trans hw282_0), ((HB.out.cell (World.block_lt_of_cell? w _ hw282_1)).trans hw282_1), ((HB.out.cell (World.block_lt_of_cell? w _ hw282_2)).trans hw282_2), ((HB.out.cell (World.block_lt_of_cell? w _ hw284_0)).trans hw284_0), ((HB.out.cell (World.block_lt_of_cell? w _ hw284_1)).trans hw284_1), ((HB.out.cell (World.block_lt_of_cell? w _ hw284_2)).trans hw284_2), ((HB.out.cell (World.block_lt_of_cell? w _ hw286_0)).trans hw286_0), ((HB.out.cell (World.block_lt_of_cell? w _ hw286_1)).trans hw286_1), ((HB.out.cell (World.block_lt_of_cell? w _ hw286_2)).trans hw286_2), ((HB.out.cell (World.block_lt_of_cell? w _ hw288_0)).trans hw288_0), ((HB.out.cell (World.block_lt_of_cell? w _ hw288_1)).trans hw288_1), ((HB.out.cell (World.block_lt_of_cell? w _ hw288_2)).trans hw288_2)⟩ (fun hHeld => ?_)
                                clear hK K
                                refine norm_ (a' := ?_) ?_ ?_
                                rotate_left
                                · show Act.put _ (some 73) _ = _
                                  simp only [Act.put, List.setIfInBounds_toArray, List.set_cons_zero, List.set_cons_succ, i64_w, i32_w]
                                  rfl
                                refine chain_ (fuel := 5) [(17, 0, some 74), (18, 0, some 75), (20, 0, some 77), (21, 0, some 78), (22, 0, some 79), (23, 0, some 80), (27, 0, some 84), (28, 0, some 85), (29, 0, some 86), (30, 0, some 87), (19, 1, some 76), (24, 1, some 81), (26, 1, some 83), (31, 1, some 88)] #[true, true, true, true, true, true, true, true, true, true, true, true, true, true, true, true, true, true, true, true, true, true, true, true, true, false, true, true, true, true, true, true, false, false, false, false] HT_.out HW_.out (by kernel_rfl) (fun _ _ _ _ _ h => h) (Or.inr hHeld) rfl ?_
                                (iterate 10 refine lkP ?_); (iterate 4 refine lkT ?_); refine .nil ?_
                                refine one_ (i := 25) (N := some 82) #[true, true, true, true, true, true, true, true, true, true, true, true, true, true, true, true, true, true, true, true, true, true, true, true, true, true, true, true, true, true, true, true, false, false, false, false] rfl rfl (one_of HT_.out (by kernel_rfl)) (by decide) (fun K hK => ?_)
                                refine goes_ Tryd.func13 (by kernel_rfl) rfl #[.agg #[.int .u64 ((rd_T27 l0 x5_1).f0), .int .u64 ((rd_T27 l0 x5_1).f1), .slice A273_2 ((rd_T27 l0 x5_1).f2).length c273_2], .agg #[.int .u64 ((rd_T27 l0 (ji34)).f0), .int .u64 ((rd_T27 l0 (ji34)).f1), .slice A282_2 ((rd_T27 l0 (ji34)).f2).length c282_2]] (by rfl) rfl rfl (by (try simp only [List.map_toArray, List.map_cons, List.map_nil]); first | done | (simp only [hji34]; rfl) | rfl | (simp only [List.length_drop, List.length_take]; rfl)) ?_
                                with_reducible refine (state_Equal.calls kj17 ((rd_T27 l0 x5_1).f0) ((rd_T27 l0 x5_1).f1) _ _ ((rd_T27 l0 x5_1).f2) ((rd_T27 l0 (ji34)).f0) ((rd_T27 l0 (ji34)).f1) _ _ ((rd_T27 l0 (ji34)).f2) t287 _ ?side1 ?side2 ?side3 ?side4 A45.out).mono ?_
                                (case side1 => exact co (Kd.C_below HR273_2.out HB.out))
                                (case side2 => exact HC273_2.out)
                                (case side3 => exact co (Kd.C_below HR286_2.out HB.out))
                                (case side4 => exact HC286_2.out)
                                rintro e w60 ⟨rfl, hb⟩
                                refine ⟨_, rfl, ?_⟩
                                have n0_ := bb BK274 hb
                                have n1_ := bs HB hb
                                clear BK274
                                clear HB
                                have BK274 := n0_
                                have HB := n1_
                                clear n0_ n1_
                                (try clear hb)
                                (try clear hb2)
                                (try clear hk)
                                (try clear hi)
                                refine hK.out _ _ ⟨(blk_cell BK274.out 0).trans rfl, (blk_cell BK274.out 1).trans rfl, (blk_cell BK274.out 2).trans rfl, ((HB.out.cell (World.block_lt_of_cell? w _ hw282_0)).trans hw282_0), ((HB.out.cell (World.block_lt_of_cell? w _ hw282_1)).trans hw282_1), ((HB.out.cell (World.block_lt_of_cell? w _ hw282_2)).trans hw282_2), ((HB.out.cell (World.block_lt_of_cell? w _ hw284_0)).trans hw284_0), ((HB.out.cell (World.block_lt_of_cell? w _ hw284_1)).trans hw284_1), ((HB.out.cell (World.block_lt_of_cell? w _ hw284_2)).trans hw284_2), ((HB.out.cell (World.block_lt_of_cell? w _ hw286_0)).trans hw286_0), ((HB.out.cell (World.block_lt_of_cell? w _ hw286_1)).trans hw286_1), ((HB.out.cell (World.block_lt_of_cell? w _ hw286_2)).trans hw286_2), ((HB.out.cell (World.block_lt_of_cell? w _ hw288_0)).trans hw288_0), ((HB.out.cell (World.block_lt_of_cell? w _ hw288_1)).trans hw288_1), ((HB.out.cell (World.block_lt_of_cell? w _ hw288_2)).trans hw288_2)⟩ (fun hHeld => ?_)
                                clear hK K
                                refine norm_ (a' := ?_) ?_ ?_
                                rotate_left
                                · show Act.put _ (some 82) _ = _
                                  simp only [Act.put, List.setIfInBounds_toArray, List.set_cons_zero, List.set_cons_succ, i64_w, i32_w]
                                  rfl
                                refine one_ (i := 32) (N := some 89) #[true, true, true, true, true, true, true, true, true, true, true, true, true, true, true, true, true, true, true, true, true, true, true, true, true, true, true, true, true, true, true, true, true, false, false, false] rfl rfl (one_of HT_.out (by kernel_rfl)) (by decide) (fun K hK => ?_)
                                refine goes_ Tryd.func14 (by kernel_rfl) rfl #[.agg #[.int .u64 ((rd_T27 l0 x5_1).f0), .int .u64 ((rd_T27 l0 x5_1).f1), .slice A273_2 ((rd_T27 l0 x5_1).f2).length c273_2], .agg #[.int .u64 ((rd_T27 l0 (ji34)).f0), .int .u64 ((rd_T27 l0 (ji34)).f1), .slice A282_2 ((rd_T27 l0 (ji34)).f2).length c282_2]] (by rfl) rfl rfl (by (try simp only [List.map_toArray, List.map_cons, List.map_nil]); first | done | (simp only [hji34]; rfl) | rfl | (simp only [List.length_drop, List.length_take]; rfl)) ?_
                                with_reducible refine (turnstileref13_Equal.calls kj17 ((rd_T27 l0 x5_1).f0) ((rd_T27 l0 x5_1).f1) _ _ ((rd_T27 l0 x5_1).f2) ((rd_T27 l0 (ji34)).f0) ((rd_T27 l0 (ji34)).f1) _ _ ((rd_T27 l0 (ji34)).f2) t289 _ ?side1 ?side2 ?side3 ?side4 A46.out).mono ?_
                                (case side1 => exact co (Kd.C_below HR273_2.out HB.out))
                                (case side2 => exact HC273_2.out)
                                (case side3 => exact co (Kd.C_below HR288_2.out HB.out))
                                (case side4 => exact HC288_2.out)
                                rintro e w61 ⟨rfl, hb⟩
                                refine ⟨_, rfl, ?_⟩
                                have n0_ := bb BK274 hb
                                have n1_ := bs HB hb
                                clear BK274
                                clear HB
                                have BK274 := n0_
                                have HB := n1_
                                clear n0_ n1_
                                (try clear hb)
                                (try clear hb2)
                                (try clear hk)
                                (try clear hi)
                                refine hK.out _ _ ⟨(blk_cell BK274.out 0).trans rfl, (blk_cell BK274.out 1).trans rfl, (blk_cell BK274.out 2).trans rfl, ((HB.out.cell (World.block_lt_of_cell? w _ hw282_0)).trans hw282_0), ((HB.out.cell (World.block_lt_of_cell? w _ hw282_1)).trans hw282_1), ((HB.out.cell (World.block_lt_of_cell? w _ hw282_2)).trans hw282_2), ((HB.out.cell (World.block_lt_of_cell? w _ hw284_0)).trans hw284_0), ((HB.out.cell (World.block_lt_of_cell? w _ hw284_1)).trans hw284_1), ((HB.out.cell (World.block_lt_of_cell? w _ hw284_2)).trans hw284_2), ((HB.out.cell (World.block_lt_of_cell? w _ hw286_0)).trans hw286_0), ((HB.out.cell (World.block_lt_of_cell? w _ hw286_1)).trans hw286_1), ((HB.out.cell (World.block_lt_of_cell? w _ hw286_2)).trans hw286_2), ((HB.out.cell (World.block_lt_of_cell? w _ hw288_0)).trans hw288_0), ((HB.out.cell (World.block_lt_of_cell? w _ hw288_1)).trans hw288_1), ((HB.out.cell (World.block_lt_of_cell? w _ hw288_2)).trans hw288_2)⟩ (fun hHeld => ?_)
                                clear hK K
                                refine norm_ (a' := ?_) ?_ ?_
                                rotate_left
                                · show Act.put _ (some 89) _ = _
                                  simp only [Act.put, List.setIfInBounds_toArray, List.set_cons_zero, List.set_cons_succ, i64_w, i32_w]
                                  rfl
                                refine chain_ (fuel := 0) [(33, 0, some 90), (34, 0, some 91), (35, 0, some 92)] #[true, true, true, true, true, true, true, true, true, true, true, true, true, true, true, true, true, true, true, true, true, true, true, true, true, true, true, true, true, true, true, true, true, true, true, true] HT_.out HW_.out (by kernel_rfl) (fun _ _ _ _ _ h => h) (Or.inl (by decide)) rfl ?_
                                (iterate 3 refine lkP ?_); refine .nil ?_
                                refine done_ (done_of HT_.out (by kernel_rfl)) ?_
                                try go_wp2
                                go_roundg kj17
                                case measure => have := HK1.out; have := HJ17.out; omega
                                case rel => exact ⟨(wrap64 (x5_1 + 1)), rs, H', ⟨by have := HK1.out; have := HJ17.out; omega⟩, ⟨bw HB⟩⟩
                          · rw [if_neg c36] at H
                            exact absurd H (by simp)
                        · rw [if_neg c35] at H
                          exact absurd H (by simp)
                      · rw [if_neg c33] at H
                        have c33b0 : decide (0 < x5_1) = false := decide_eq_false c33
                        clear c33
                        have H' := Aside0.mk H
                        clear H
                        obtain ⟨hcz62_0, hcz62_1, hcz62_2, hfz62_0, hfz62_1, hfz62_2⟩ := bc3 BK274
                        try go_wp2_with (first | ((with_reducible refine gate_callee (f := 13) rfl ?_); refine gl (some 55) Tryd.func13 #[.agg #[.int .u64 ((rd_T27 l0 x5_1).f0), .int .u64 ((rd_T27 l0 x5_1).f1), .slice A273_2 ((rd_T27 l0 x5_1).f2).length c273_2], .agg #[.int .u64 ((rd_T27 l0 x5_1).f0), .int .u64 ((rd_T27 l0 x5_1).f1), .slice A273_2 ((rd_T27 l0 x5_1).f2).length c273_2]] ?_; (with_reducible refine (state_Equal.calls kj17 ((rd_T27 l0 x5_1).f0) ((rd_T27 l0 x5_1).f1) _ _ ((rd_T27 l0 x5_1).f2) ((rd_T27 l0 x5_1).f0) ((rd_T27 l0 x5_1).f1) _ _ ((rd_T27 l0 x5_1).f2) true _ ?side1 ?side2 ?side3 ?side4 A31.out).mono ?_); (case side1 => exact co (Kd.C_below HR273_2.out HB.out)); (case side2 => exact HC273_2.out); (case side3 => exact co (Kd.C_below HR273_2.out HB.out)); (case side4 => exact HC273_2.out); rintro e w63 ⟨rfl, hb⟩; refine ⟨_, rfl, ?_⟩; have n0_ := bb BK274 hb; have n1_ := bs HB hb; clear BK274; clear HB; have BK274 := n0_; have HB := n1_; clear n0_ n1_; (try clear hb); (try clear hb2); (try clear hk); (try clear hi)))
                        have n0_ := Aside0.mk (blk_drew BK274.out)
                        have n1_ := Aside0.mk (below_drew1 HB.out)
                        clear BK274
                        clear HB
                        have BK274 := n0_
                        have HB := n1_
                        clear n0_ n1_
                        refine start_ (n := 36) (S := fun w' => True) (ds := []) #[false, false, false, false, false, false, false, false, false, false, false, false, false, false, false, false, false, false, false, false, false, false, false, false, false, false, false, false, false, false, false, false, false, false, false, false] (by kernel_rfl) rfl rfl trivial (fun hHeld => ?_); refine with_tabW turnstilelaw13_StateLooks.tab16 turnstilelaw13_StateLooks.bits16 (fun HT_ HW_ => ?_)
                        generalize w63.drew = w64 at BK274 HB hHeld ⊢
                        refine chain_ (fuel := 0) [(0, 0, some 57), (1, 0, some 58), (2, 0, some 59), (3, 2, some 60), (4, 2, some 61), (5, 2, some 62), (6, 2, some 63), (7, 2, some 64), (8, 2, some 65), (9, 2, some 66), (10, 2, some 67), (11, 2, some 68), (12, 2, some 69), (13, 2, some 70), (14, 2, some 71), (15, 2, some 72), (16, 2, some 73), (17, 2, some 74), (18, 2, some 75), (19, 2, some 76), (20, 2, some 77), (21, 2, some 78), (22, 2, some 79), (23, 2, some 80), (24, 2, some 81), (25, 2, some 82), (26, 2, some 83), (27, 2, some 84), (28, 2, some 85), (29, 2, some 86), (30, 2, some 87), (31, 2, some 88), (32, 2, some 89), (33, 2, some 90), (34, 2, some 91), (35, 0, some 92)] #[true, true, true, true, true, true, true, true, true, true, true, true, true, true, true, true, true, true, true, true, true, true, true, true, true, true, true, true, true, true, true, true, true, true, true, true] HT_.out HW_.out (by kernel_rfl) (fun _ _ _ _ _ h => h) (Or.inl (by decide)) rfl ?_
                        (iterate 3 refine lkP ?_); (iterate 32 refine lkO ?_); refine lkP ?_; refine .nil ?_
                        refine done_ (done_of HT_.out (by kernel_rfl)) ?_
                        try go_wp2
                        go_roundg kj17
                        case measure => have := HK1.out; have := HJ17.out; omega
                        case rel => exact ⟨(wrap64 (x5_1 + 1)), rs, H', ⟨by have := HK1.out; have := HJ17.out; omega⟩, ⟨bw HB⟩⟩
                    · replace c32 := Bool.eq_false_iff.mpr c32
                      subst c32
                      have H1 : (some false) = some r := by rw [if_neg (show ¬ (false = true) by decide)] at H; exact H
                      clear H
                      have H := H1
                      clear H1
                      obtain rfl := Option.some.inj H
                      obtain ⟨hcz65_0, hcz65_1, hcz65_2, hfz65_0, hfz65_1, hfz65_2⟩ := bc3 BK274
                      go_wp2_with (first | ((with_reducible refine gate_callee (f := 13) rfl ?_); refine gl (some 55) Tryd.func13 #[.agg #[.int .u64 ((rd_T27 l0 x5_1).f0), .int .u64 ((rd_T27 l0 x5_1).f1), .slice A273_2 ((rd_T27 l0 x5_1).f2).length c273_2], .agg #[.int .u64 ((rd_T27 l0 x5_1).f0), .int .u64 ((rd_T27 l0 x5_1).f1), .slice A273_2 ((rd_T27 l0 x5_1).f2).length c273_2]] ?_; (with_reducible refine (state_Equal.calls kj17 ((rd_T27 l0 x5_1).f0) ((rd_T27 l0 x5_1).f1) _ _ ((rd_T27 l0 x5_1).f2) ((rd_T27 l0 x5_1).f0) ((rd_T27 l0 x5_1).f1) _ _ ((rd_T27 l0 x5_1).f2) false _ ?side1 ?side2 ?side3 ?side4 A31.out).mono ?_); (case side1 => exact co (Kd.C_below HR273_2.out HB.out)); (case side2 => exact HC273_2.out); (case side3 => exact co (Kd.C_below HR273_2.out HB.out)); (case side4 => exact HC273_2.out); rintro e w66 ⟨rfl, hb⟩; refine ⟨_, rfl, ?_⟩; have n0_ := bb BK274 hb; have n1_ := bs HB hb; clear BK274; clear HB; have BK274 := n0_; have HB := n1_; clear n0_ n1_; (try clear hb); (try clear hb2); (try clear hk); (try clear hi)))
                      go_ret
                      exact ⟨re, bw HB⟩
          · rw [if_neg c7] at H
            exact absurd H (by simp)
        · rw [if_neg c6] at H
          have c6b0 : decide (x5_1 < (l0.length : Int)) = false := decide_eq_false c6
          clear c6
          obtain rfl := Option.some.inj H
          go_wp2
          go_ret
          exact ⟨re, bw HB⟩
  · replace c4 := Bool.eq_false_iff.mpr c4
    subst c4
    have H1 : (some false) = some r := by rw [if_neg (show ¬ (false = true) by decide)] at H; exact H
    clear H
    have H := H1
    clear H1
    obtain rfl := Option.some.inj H
    go_enter Tryd.func3, Tryd.ntmps3
    go_wp2_with (first | ((with_reducible refine gate_callee (f := 8) rfl ?_); refine gl (some 12) Tryd.func8 #[] ?_; (with_reducible refine (turnstilelaw13_lives.calls  false _ ?side1 A3.out).mono ?_); (case side1 => exact (HERR.out.below (bw HB))); rintro e w67 ⟨rfl, hb⟩; refine ⟨_, rfl, ?_⟩; have n0_ := bs HB hb; clear HB; have HB := n0_; clear n0_; (try clear hb); (try clear hb2); (try clear hk); (try clear hi)))
    go_ret
    exact ⟨re, bw HB⟩


end Go.Proofs.YtnhngjhodcikiaaDoor.F
